/-
  The atomic cell: what its functions do.
  No condition: definitions and lemmas.
-/
import Derived.Test.YtfffmopgodknpaaGreatMemF
import Derived.Test.YtfffmopgodknpaaGreatProg
import Derived.WalkKit
import Derived.Laws.LoneSync
import Derived.RegionCalls
set_option linter.all false
set_option maxRecDepth 100000
set_option maxHeartbeats 4000000
namespace Go.M
open Go Go.Proofs
noncomputable section
theorem at_store (a : Addr) (x : Value) (v : Int) (w : World) (hc : w.cell? a = some x) (hz : w.frozen? a = false) :
    Calls Tryz.prog 230 #[.pointer (some a), .int .i64 v] w fun e w' => e = .returned (.tuple #[]) ∧ w' = w.setCell a (.int .i64 v) := by
  have hst := run_call_store (P := Tryz.prog) Tryz.func328 (by kernel_rfl) (by kernel_rfl) (by kernel_rfl) (by kernel_rfl) (k := .i64) (y := v) hc hz
  go_enter Tryz.func230, Tryz.ntmps230
  go_wp2
  go_end0
  exact ⟨rfl, rfl⟩
theorem at_load (a : Addr) (x : Int) (w : World) (hc : w.cell? a = some (.int .i64 x)) :
    Calls Tryz.prog 232 #[.pointer (some a)] w fun e w' => e = .returned (.int .i64 x) ∧ w' = w := by
  have hst := run_call_load (P := Tryz.prog) Tryz.func330 (by kernel_rfl) (by kernel_rfl) (by kernel_rfl) .i64 (by kernel_rfl) hc
  go_enter Tryz.func232, Tryz.ntmps232
  go_wp2
  refine bodyPost_ret (results_tmp rfl _ _ _) rfl ?_
  exact ⟨rfl, rfl⟩
theorem at_cas (a : Addr) (x o y : Int) (w : World) (hc : w.cell? a = some (.int .i64 x)) (hz : w.frozen? a = false) :
    Calls Tryz.prog 231 #[.pointer (some a), .int .i64 o, .int .i64 y] w fun e w' => e = .returned (.bool (x == o)) ∧ w' = if x = o then w.setCell a (.int .i64 y) else w := by
  by_cases h : x = o
  · subst h
    have hst := run_call_cas_hit (P := Tryz.prog) Tryz.func329 (by kernel_rfl) (by kernel_rfl) (by kernel_rfl) .i64 (by kernel_rfl) (y := y) hc hz
    go_enter Tryz.func231, Tryz.ntmps231
    go_wp2
    refine bodyPost_ret (results_tmp rfl _ _ _) rfl ?_
    exact ⟨by simp, by simp⟩
  · have hst := run_call_cas_miss (P := Tryz.prog) Tryz.func329 (by kernel_rfl) (by kernel_rfl) (by kernel_rfl) .i64 (by kernel_rfl) (y := y) hc hz h
    go_enter Tryz.func231, Tryz.ntmps231
    go_wp2
    refine bodyPost_ret (results_tmp rfl _ _ _) rfl ?_
    exact ⟨by simp [h], by simp [h]⟩
def hkN (f : Nat) : FC := cnd (Nat.beq f 232) fcLoad (cnd (Nat.beq f 231) fcCas (cnd (Nat.beq f 230) fcStore fcN))
theorem hk_ok [Ctxt] : CallsOk Tryz.prog hkN := fun g => by
  show FcOk Tryz.prog g (cnd (Nat.beq g 232) fcLoad (cnd (Nat.beq g 231) fcCas (cnd (Nat.beq g 230) fcStore fcN)))
  cases h1 : Nat.beq g 232 with
  | true => rw [beqT h1]; exact fcLoad_ok ⟨Tryz.f232, Tryz.func232, by kernel_rfl, by kernel_rfl⟩ at_load
  | false => cases h2 : Nat.beq g 231 with
    | true => rw [beqT h2]; exact fcCas_ok ⟨Tryz.f231, Tryz.func231, by kernel_rfl, by kernel_rfl⟩ at_cas
    | false => cases h3 : Nat.beq g 230 with
      | true => rw [beqT h3]; exact fcStore_ok ⟨Tryz.f230, Tryz.func230, by kernel_rfl, by kernel_rfl⟩ at_store
      | false => exact fcN_ok
end
end Go.M
