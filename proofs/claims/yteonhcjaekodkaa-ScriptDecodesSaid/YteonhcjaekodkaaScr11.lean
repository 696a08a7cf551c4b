/-
  Walks and plain lemmas for ScriptDecodes: what the functions named below compute, over the abstract states of the engine.
  No condition beyond those that each theorem states.
-/
import Derived.Test.YteonhcjaekodkaaScr10
set_option linter.all false
set_option linter.unusedSimpArgs false
set_option maxRecDepth 20000
set_option maxHeartbeats 4000000
namespace Go.Eng
open Go Go.Proofs

theorem fn60 (a b c d e f : Int) (x : AV) (hx : Fn Try.prog 107 [x, x] [] (Bo true) [] []) (hp : x.pure = true) (ho : x.one = true) :
    Fn Try.prog 60 [.agg [I a, I b, I c, I d, I e, I f, x, Nl], .agg [I a, I b, I c, I d, I e, I f, x, Nl]] [] (Bo true) [] [] := by
  refine Fn.of_go ok60 (by simp) ?_
  unfold s60
  simp only [ho, hp, go_sem, reduceIte, Nat.reduceAdd, Nat.reduceMul, Nat.reduceSub, Nat.reduceEqDiff, Nat.reduceLeDiff, Nat.reduceLT, reduceCtorEq, Nat.succ_eq_add_one]
  refine goCall0 hx (by simp only [hp, go_sem, reduceIte, Nat.reduceAdd, Nat.reduceMul, Nat.reduceSub, Nat.reduceEqDiff, Nat.reduceLeDiff, Nat.reduceLT, reduceCtorEq, Nat.succ_eq_add_one]) rfl ?_
  simp only [ho, hp, go_sem, reduceIte, Nat.reduceAdd, Nat.reduceMul, Nat.reduceSub, Nat.reduceEqDiff, Nat.reduceLeDiff, Nat.reduceLT, reduceCtorEq, Nat.succ_eq_add_one]
  refine goCall0 fn108 rfl rfl ?_
  simp only [ho, hp, go_sem, reduceIte, Nat.reduceAdd, Nat.reduceMul, Nat.reduceSub, Nat.reduceEqDiff, Nat.reduceLeDiff, Nat.reduceLT, reduceCtorEq, Nat.succ_eq_add_one]
  exact Fin.eq0 _ rfl rfl rfl rfl
end Go.Eng
