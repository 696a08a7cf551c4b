/-
  The atomic cell: what its functions do.
  No condition: definitions and lemmas.
-/
import Derived.Test.YtncnaejhbmnkbaaGreatMemF
import Derived.Test.YtncnaejhbmnkbaaGreatProg
import Derived.WalkKit
import Derived.Laws.LoneSync
import Derived.RegionCalls
set_option linter.all false
set_option maxRecDepth 100000
set_option maxHeartbeats 4000000
namespace Go.M
open Go Go.Proofs
noncomputable section
theorem at_store (a : Addr) (x : Value) (v : Int) (w : World) (hc : w.cell? a = some x) (hz : w.frozen? a = false) :
    Calls Tryz.prog 54 #[.pointer (some a), .int .i64 v] w fun e w' => e = .returned (.tuple #[]) ∧ w' = w.setCell a (.int .i64 v) := by
  have hst := run_call_store (P := Tryz.prog) Tryz.func80 (by kernel_rfl) (by kernel_rfl) (by kernel_rfl) (by kernel_rfl) (k := .i64) (y := v) hc hz
  go_enter Tryz.func54, Tryz.ntmps54
  go_wp2
  go_end0
  exact ⟨rfl, rfl⟩
theorem at_load (a : Addr) (x : Int) (w : World) (hc : w.cell? a = some (.int .i64 x)) :
    Calls Tryz.prog 56 #[.pointer (some a)] w fun e w' => e = .returned (.int .i64 x) ∧ w' = w := by
  have hst := run_call_load (P := Tryz.prog) Tryz.func82 (by kernel_rfl) (by kernel_rfl) (by kernel_rfl) .i64 (by kernel_rfl) hc
  go_enter Tryz.func56, Tryz.ntmps56
  go_wp2
  refine bodyPost_ret (results_tmp rfl _ _ _) rfl ?_
  exact ⟨rfl, rfl⟩
theorem at_cas (a : Addr) (x o y : Int) (w : World) (hc : w.cell? a = some (.int .i64 x)) (hz : w.frozen? a = false) :
    Calls Tryz.prog 55 #[.pointer (some a), .int .i64 o, .int .i64 y] w fun e w' => e = .returned (.bool (x == o)) ∧ w' = if x = o then w.setCell a (.int .i64 y) else w := by
  by_cases h : x = o
  · subst h
    have hst := run_call_cas_hit (P := Tryz.prog) Tryz.func81 (by kernel_rfl) (by kernel_rfl) (by kernel_rfl) .i64 (by kernel_rfl) (y := y) hc hz
    go_enter Tryz.func55, Tryz.ntmps55
    go_wp2
    refine bodyPost_ret (results_tmp rfl _ _ _) rfl ?_
    exact ⟨by simp, by simp⟩
  · have hst := run_call_cas_miss (P := Tryz.prog) Tryz.func81 (by kernel_rfl) (by kernel_rfl) (by kernel_rfl) .i64 (by kernel_rfl) (y := y) hc hz h
    go_enter Tryz.func55, Tryz.ntmps55
    go_wp2
    refine bodyPost_ret (results_tmp rfl _ _ _) rfl ?_
    exact ⟨by simp [h], by simp [h]⟩
def hkN (f : Nat) : FC := cnd (Nat.beq f 56) fcLoad (cnd (Nat.beq f 55) fcCas (cnd (Nat.beq f 54) fcStore fcN))
theorem hk_ok [Ctxt] : CallsOk Tryz.prog hkN := fun g => by
  show FcOk Tryz.prog g (cnd (Nat.beq g 56) fcLoad (cnd (Nat.beq g 55) fcCas (cnd (Nat.beq g 54) fcStore fcN)))
  cases h1 : Nat.beq g 56 with
  | true => rw [beqT h1]; exact fcLoad_ok ⟨Tryz.f56, Tryz.func56, by kernel_rfl, by kernel_rfl⟩ at_load
  | false => cases h2 : Nat.beq g 55 with
    | true => rw [beqT h2]; exact fcCas_ok ⟨Tryz.f55, Tryz.func55, by kernel_rfl, by kernel_rfl⟩ at_cas
    | false => cases h3 : Nat.beq g 54 with
      | true => rw [beqT h3]; exact fcStore_ok ⟨Tryz.f54, Tryz.func54, by kernel_rfl, by kernel_rfl⟩ at_store
      | false => exact fcN_ok
end
end Go.M
