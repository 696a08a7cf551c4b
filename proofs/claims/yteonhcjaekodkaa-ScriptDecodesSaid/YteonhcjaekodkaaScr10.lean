/-
  Walks and plain lemmas for ScriptDecodes: what the functions named below compute, over the abstract states of the engine.
  No condition beyond those that each theorem states.
-/
import Derived.Test.YteonhcjaekodkaaScr9
set_option linter.all false
set_option linter.unusedSimpArgs false
set_option maxRecDepth 20000
set_option maxHeartbeats 4000000
namespace Go.Eng
open Go Go.Proofs

theorem fn107n : Fn Try.prog 107 [Nl, Nl] [] (Bo true) [] [] := by
  refine Fn.of_go ok107 (by simp) ?_
  unfold s107
  simp only [go_sem, reduceIte, Nat.reduceAdd, Nat.reduceMul, Nat.reduceSub, Nat.reduceEqDiff, Nat.reduceLeDiff, Nat.reduceLT, reduceCtorEq, Nat.succ_eq_add_one]
  refine go_loop (fun _ : Unit => ⟨1000, [(0, Nl), (1, Nl), (5, Z)], []⟩) (fun _ => 0) () (Wk.mk [] [] rfl rfl (by simp only [go_sem, reduceIte, Nat.reduceAdd, Nat.reduceMul, Nat.reduceSub, Nat.reduceEqDiff, Nat.reduceLeDiff, Nat.reduceLT, reduceCtorEq, Nat.succ_eq_add_one]) (by simp only [go_sem, reduceIte, Nat.reduceAdd, Nat.reduceMul, Nat.reduceSub, Nat.reduceEqDiff, Nat.reduceLeDiff, Nat.reduceLT, reduceCtorEq, Nat.succ_eq_add_one]) (by simp only [rv, go_sem, reduceIte, Nat.reduceAdd, Nat.reduceMul, Nat.reduceSub, Nat.reduceEqDiff, Nat.reduceLeDiff, Nat.reduceLT, reduceCtorEq, Nat.succ_eq_add_one])) ?_
  intro _ B hB
  simp only [go_sem, reduceIte, Nat.reduceAdd, Nat.reduceMul, Nat.reduceSub, Nat.reduceEqDiff, Nat.reduceLeDiff, Nat.reduceLT, reduceCtorEq, Nat.succ_eq_add_one]
  exact Fin.eq0 _ rfl rfl rfl rfl

theorem fn107 (xs : List (List AV)) (h : ∀ k, k < xs.length → ∃ t, nth xs k = [.v (.string t)]) (hl : xs.length ≤ 100000) : Fn Try.prog 107 [.sl 1 xs, .sl 1 xs] [] (Bo true) [] [] := by
  refine Fn.of_go ok107 (by simp) ?_
  unfold s107
  simp only [go_sem, reduceIte, Nat.reduceAdd, Nat.reduceMul, Nat.reduceSub, Nat.reduceEqDiff, Nat.reduceLeDiff, Nat.reduceLT, reduceCtorEq, Nat.succ_eq_add_one]
  refine go_loop (fun j : {j : Nat // j ≤ xs.length} => ⟨1000, [(0, .sl 1 xs), (1, .sl 1 xs), (5, I j.1)], []⟩) (fun j => xs.length - j.1) ⟨0, by omega⟩ (Wk.mk [] [] rfl rfl (by simp only [go_sem, reduceIte, Nat.reduceAdd, Nat.reduceMul, Nat.reduceSub, Nat.reduceEqDiff, Nat.reduceLeDiff, Nat.reduceLT, reduceCtorEq, Nat.succ_eq_add_one]) (by simp only [go_sem, reduceIte, Nat.reduceAdd, Nat.reduceMul, Nat.reduceSub, Nat.reduceEqDiff, Nat.reduceLeDiff, Nat.reduceLT, reduceCtorEq, Nat.succ_eq_add_one]) (by simp only [rv, go_sem, reduceIte, Nat.reduceAdd, Nat.reduceMul, Nat.reduceSub, Nat.reduceEqDiff, Nat.reduceLeDiff, Nat.reduceLT, reduceCtorEq, Nat.succ_eq_add_one]; rfl)) ?_
  intro j B hB
  simp only [go_sem, reduceIte, Nat.reduceAdd, Nat.reduceMul, Nat.reduceSub, Nat.reduceEqDiff, Nat.reduceLeDiff, Nat.reduceLT, reduceCtorEq, Nat.succ_eq_add_one]
  refine goIf_split (fun h1 => ?_) (fun h1 => ?_) <;> simp only [h1, go_sem, reduceIte, Nat.reduceAdd, Nat.reduceMul, Nat.reduceSub, Nat.reduceEqDiff, Nat.reduceLeDiff, Nat.reduceLT, reduceCtorEq, Nat.succ_eq_add_one]
  · have e1 : j.1 < xs.length := by simp only [decide_eq_true_eq] at h1; omega
    obtain ⟨t, ht⟩ := h j.1 e1
    simp only [Int.toNat_natCast, ht, w64_succ (show j.1 ≤ 100000 by omega), go_sem, reduceIte, Nat.reduceAdd, Nat.reduceMul, Nat.reduceSub, Nat.reduceEqDiff, Nat.reduceLeDiff, Nat.reduceLT, reduceCtorEq, Nat.succ_eq_add_one]
    refine ⟨⟨by omega, by omega⟩, ⟨by omega, by omega⟩, rfl, hB _ ⟨j.1 + 1, e1⟩ (by simp only; omega) (Wk.mk [] [] rfl rfl (by simp only [go_sem, reduceIte, Nat.reduceAdd, Nat.reduceMul, Nat.reduceSub, Nat.reduceEqDiff, Nat.reduceLeDiff, Nat.reduceLT, reduceCtorEq, Nat.succ_eq_add_one]) (by simp only [go_sem, reduceIte, Nat.reduceAdd, Nat.reduceMul, Nat.reduceSub, Nat.reduceEqDiff, Nat.reduceLeDiff, Nat.reduceLT, reduceCtorEq, Nat.succ_eq_add_one]) (by simp only [rv, go_sem, reduceIte, Nat.reduceAdd, Nat.reduceMul, Nat.reduceSub, Nat.reduceEqDiff, Nat.reduceLeDiff, Nat.reduceLT, reduceCtorEq, Nat.succ_eq_add_one]))⟩
  · exact Fin.eq0 _ rfl rfl rfl rfl
end Go.Eng
