/-
  SettleLimit gives back true at every input.
  The number is that of a byte.
-/
import Derived.Test.YthciknbicfnhfaaGreatRu0
import Derived.Test.YthciknbicfnhfaaGreatRu1
import Derived.Test.YthciknbicfnhfaaGreatRu2
import Derived.KernelRfl
set_option linter.unusedVariables false
namespace Go.M
open Go Go.Proofs
theorem rem_fact {a : Int} {b : Nat} (h0 : 0 ≤ a) (hb : a % 3 = b) (h8 : b < 3) : OpFact .rem ⟨13, [], .int .u8 a⟩ ⟨1540, [], oZ⟩ ⟨512 * b + 4, [], oZ⟩ := by
  refine ⟨.int .u8 a, .int .u8 3, .int .u8 b, by kernel_rfl, by kernel_rfl, ?_, rfl, ?_⟩
  · match b, h8 with
    | 0, _ => (show dvX ⟨512 * 0 + 4, [], oZ⟩ = some (.int .u8 ((0 : Nat) : Int)); kernel_rfl)
    | 1, _ => (show dvX ⟨512 * 1 + 4, [], oZ⟩ = some (.int .u8 ((1 : Nat) : Int)); kernel_rfl)
    | 2, _ => (show dvX ⟨512 * 2 + 4, [], oZ⟩ = some (.int .u8 ((2 : Nat) : Int)); kernel_rfl)
  · show (if IntKind.u8 = IntKind.u8 ∧ (3 : Int) ≠ 0 then some (Value.int .u8 (a.tmod 3)) else none) = _
    rw [if_pos ⟨rfl, by decide⟩, Int.tmod_eq_emod_of_nonneg h0, hb]
theorem fn4 (a : Int) (h0 : 0 ≤ a) (w : World) : Calls Tryz.prog 4 #[.int .u8 a] w fun e w' => e = .returned (.bool true) ∧ Go.RowKit.Below w.heap.size w w' := by
  have hv : denL Vz [⟨13, [], .int .u8 a⟩] #[Value.int .u8 a].toList := denL_cons.2 ⟨_, [], rfl, (den12 (x := ⟨13, [], .int .u8 a⟩) (.inr rfl)).2 ⟨rfl, rfl⟩, denL_nil.2 rfl⟩
  have h3 : a % 3 = 0 ∨ a % 3 = 1 ∨ a % 3 = 2 := by omega
  rcases h3 with h | h | h
  · exact top (law_ok cl20_ok ok4) (Eq.mpr (run4_0 a) ⟨rem_fact (b := 0) h0 h (by decide), trivial⟩) hv w
  · exact top (law_ok cl20_ok ok4) (Eq.mpr (run4_1 a) ⟨rem_fact (b := 1) h0 h (by decide), trivial⟩) hv w
  · exact top (law_ok cl20_ok ok4) (Eq.mpr (run4_2 a) ⟨rem_fact (b := 2) h0 h (by decide), trivial⟩) hv w
end Go.M
