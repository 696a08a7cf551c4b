/-
  Walks and plain lemmas for ScriptTokens: what the functions named below compute, over the abstract states of the engine.
  No condition beyond those that each theorem states.
-/
import Derived.Test.YteonhcjaekodkaaTokS8
set_option linter.all false
set_option linter.unusedSimpArgs false
set_option maxRecDepth 20000
set_option maxHeartbeats 4000000
namespace Go.Eng.Scr
open Go Go.Proofs

theorem encB_bytes (b : List UInt8) : bytesOfL (encB b) = some b := by
  induction b with
  | nil => rfl
  | cons x b ih =>
    have e : encB (x :: b) = [.v (.int .u8 (x.toNat : Int))] :: encB b := rfl
    rw [e]
    simp only [bytesOfL, ih, Int.toNat_natCast]
    simp
attribute [go_sem] encB_bytes

/-- Two byte slices of the same bytes. -/
theorem fn53 (b : List UInt8) : Fn Try.prog 53 [bsl b, bsl b] [] (Bo true) [] [] := by
  refine Fn.of_go ok53 (by simp) ?_
  unfold s53
  simp only [go_sem, reduceIte, Nat.reduceAdd, Nat.reduceMul, Nat.reduceSub, Nat.reduceEqDiff, Nat.reduceLeDiff, Nat.reduceLT, reduceCtorEq, Nat.succ_eq_add_one]
  refine Fin.eq0 _ rfl rfl rfl ?_
  simp [retOne]
theorem fn53n : Fn Try.prog 53 [Nl, Nl] [] (Bo true) [] [] := by
  refine Fn.of_go ok53 (by simp) ?_
  unfold s53
  simp only [go_sem, reduceIte, Nat.reduceAdd, Nat.reduceMul, Nat.reduceSub, Nat.reduceEqDiff, Nat.reduceLeDiff, Nat.reduceLT, reduceCtorEq, Nat.succ_eq_add_one]
  refine Fin.eq0 _ rfl rfl rfl ?_
  simp [retOne]
theorem d00 : decide ((0 : Int) < ((0 : Nat) : Int)) = false := rfl
attribute [go_sem] bne_self_eq_false beq_self_eq_true d00

theorem fn108 : Fn Try.prog 108 [Nl, Nl] [] (Bo true) [] [] := by
  refine Fn.of_go ok108 (by simp) ?_
  unfold s108
  simp only [go_sem, reduceIte, Nat.reduceAdd, Nat.reduceMul, Nat.reduceSub, Nat.reduceEqDiff, Nat.reduceLeDiff, Nat.reduceLT, reduceCtorEq, Nat.succ_eq_add_one]
  refine go_loop (fun _ : Unit => ⟨1000, [(0, Nl), (1, Nl), (5, Z)], []⟩) (fun _ => 0) () (Wk.mk [] [] rfl rfl (by simp only [go_sem, reduceIte, Nat.reduceAdd, Nat.reduceMul, Nat.reduceSub, Nat.reduceEqDiff, Nat.reduceLeDiff, Nat.reduceLT, reduceCtorEq, Nat.succ_eq_add_one]) (by simp only [go_sem, reduceIte, Nat.reduceAdd, Nat.reduceMul, Nat.reduceSub, Nat.reduceEqDiff, Nat.reduceLeDiff, Nat.reduceLT, reduceCtorEq, Nat.succ_eq_add_one]) (by simp only [rv, go_sem, reduceIte, Nat.reduceAdd, Nat.reduceMul, Nat.reduceSub, Nat.reduceEqDiff, Nat.reduceLeDiff, Nat.reduceLT, reduceCtorEq, Nat.succ_eq_add_one])) ?_
  intro _ B hB
  simp only [go_sem, reduceIte, Nat.reduceAdd, Nat.reduceMul, Nat.reduceSub, Nat.reduceEqDiff, Nat.reduceLeDiff, Nat.reduceLT, reduceCtorEq, Nat.succ_eq_add_one]
  exact Fin.eq0 _ rfl rfl rfl rfl
end Go.Eng.Scr
