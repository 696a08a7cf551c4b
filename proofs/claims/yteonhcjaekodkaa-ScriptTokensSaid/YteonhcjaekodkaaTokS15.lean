/-
  Walks and plain lemmas for ScriptTokens: what the functions named below compute, over the abstract states of the engine.
  No condition beyond those that each theorem states.
-/
import Derived.Test.YteonhcjaekodkaaEngE
import Derived.Test.YteonhcjaekodkaaTokS13
set_option linter.all false
set_option linter.unusedSimpArgs false
set_option maxRecDepth 20000
set_option maxHeartbeats 4000000
namespace Go.Eng.Scr
open Go Go.Proofs
theorem fn18 : Fn Try.prog 18 [] [] (Bo true) [] [] := by
  refine Fn.of_go ok18 (by simp) ?_
  unfold s18
  simp only [List.reduceReplicate, List.length_set, List.length_replicate, List.length_cons, List.length_nil, List.set_cons_zero, List.set_cons_succ, go_sem, reduceIte, Nat.reduceAdd, Nat.reduceMul, Nat.reduceSub, Nat.reduceEqDiff, Nat.reduceLeDiff, Nat.reduceLT, reduceCtorEq, Nat.succ_eq_add_one]
  refine goCall_fz [16] [bsl awk] (by simp [get]) (by simp [rvL, rv, stay, get, encB, awk]) ?_
  refine goCall0 (fn15 awk (by decide)) (by decide) (by decide) ?_
  simp only [dec_awk, cmd_awk0, cmd_awk2, cmdC, nth, Int.cast_ofNat_Int, Int.reduceBEq, beq_self_eq_true, Int.reduceLT, List.length_cons, List.length_nil, List.getElem?_cons_zero, List.getElem?_cons_succ, Option.getD_some, Int.toNat_zero, Int.toNat_one, Int.reduceToNat, go_sem, reduceIte, Nat.reduceAdd, Nat.reduceMul, Nat.reduceSub, Nat.reduceEqDiff, Nat.reduceLeDiff, Nat.reduceLT, reduceCtorEq, Nat.succ_eq_add_one]
  exact ⟨by omega, by omega, by omega, by omega, by omega, by omega, Fin.eq0 _ rfl rfl rfl rfl⟩
end Go.Eng.Scr
