/-
  Walks and plain lemmas for ScriptTokens: what the functions named below compute, over the abstract states of the engine.
  No condition beyond those that each theorem states.
-/
import Derived.Test.YteonhcjaekodkaaBas4
set_option linter.all false
set_option linter.unusedSimpArgs false
set_option maxRecDepth 20000
set_option maxHeartbeats 4000000
namespace Go.Eng
open Go Go.Proofs

def btw (x lo hi : Int) : Bool := decide (lo ≤ x) && decide (x ≤ hi)
theorem fn129 (x lo hi : Int) : Fn Try.prog 129 [I x, I lo, I hi] [] (Bo (btw x lo hi)) [] [] := by
  refine Fn.of_go ok129 (by simp) ?_
  unfold s129
  simp only [go_sem, reduceIte, Nat.reduceAdd, Nat.reduceMul, Nat.reduceSub, Nat.reduceEqDiff, Nat.reduceLeDiff, Nat.reduceLT, reduceCtorEq, Nat.succ_eq_add_one]
  refine goG_split (fun h1 => ?_) (fun h1 => ?_)
  · simp only [h1, go_sem, reduceIte, Nat.reduceAdd, Nat.reduceMul, Nat.reduceSub, Nat.reduceEqDiff, Nat.reduceLeDiff, Nat.reduceLT, reduceCtorEq, Nat.succ_eq_add_one]
    refine Fin.eq0 _ rfl rfl rfl ?_
    simp only [retOne, btw, h1, Bool.true_and]
  · simp only [h1, go_sem, reduceIte, Nat.reduceAdd, Nat.reduceMul, Nat.reduceSub, Nat.reduceEqDiff, Nat.reduceLeDiff, Nat.reduceLT, reduceCtorEq, Nat.succ_eq_add_one]
    refine Fin.eq0 _ rfl rfl rfl ?_
    simp only [retOne, btw, h1, Bool.false_and]
theorem fn130 (x lo hi : Int) : Fn Try.prog 130 [I x, I lo, I hi] [] (Bo (btw x lo hi)) [] [] := by
  refine Fn.of_go ok130 (by simp) ?_
  unfold s130
  simp only [go_sem, reduceIte, Nat.reduceAdd, Nat.reduceMul, Nat.reduceSub, Nat.reduceEqDiff, Nat.reduceLeDiff, Nat.reduceLT, reduceCtorEq, Nat.succ_eq_add_one]
  refine goG_split (fun h1 => ?_) (fun h1 => ?_)
  · simp only [h1, go_sem, reduceIte, Nat.reduceAdd, Nat.reduceMul, Nat.reduceSub, Nat.reduceEqDiff, Nat.reduceLeDiff, Nat.reduceLT, reduceCtorEq, Nat.succ_eq_add_one]
    refine Fin.eq0 _ rfl rfl rfl ?_
    simp only [retOne, btw]
    simp_all <;> omega
  · simp only [h1, go_sem, reduceIte, Nat.reduceAdd, Nat.reduceMul, Nat.reduceSub, Nat.reduceEqDiff, Nat.reduceLeDiff, Nat.reduceLT, reduceCtorEq, Nat.succ_eq_add_one]
    refine Fin.eq0 _ rfl rfl rfl ?_
    simp only [retOne, btw]
    simp_all <;> omega

def Msg.good (m : Msg) : Bool := btw m.id 1 1073741824 && (btw m.route 0 65535 && (btw m.epoch 0 65536 && (btw m.count 0 8 && (btw m.gen m.count 65536 && btw m.sent 0 1073741824))))
def Msg.val (m : Msg) : Int := if m.good then (if 16 < m.body.size then 2 else 0) else 1

theorem fn109 (m : Msg) : Fn Try.prog 109 [.agg m.enc] [] (I m.val) [] [] := by
  refine Fn.of_go ok109 (by simp) ?_
  unfold s109 Msg.enc
  simp only [go_sem, reduceIte, Nat.reduceAdd, Nat.reduceMul, Nat.reduceSub, Nat.reduceEqDiff, Nat.reduceLeDiff, Nat.reduceLT, reduceCtorEq, Nat.succ_eq_add_one]
  repeat' first
    | (refine goG_split (fun h1 => ?_) (fun h1 => ?_) <;> simp only [h1, go_sem, reduceIte, Nat.reduceAdd, Nat.reduceMul, Nat.reduceSub, Nat.reduceEqDiff, Nat.reduceLeDiff, Nat.reduceLT, reduceCtorEq, Nat.succ_eq_add_one])
    | (refine goIf_split (fun h1 => ?_) (fun h1 => ?_) <;> simp only [h1, go_sem, reduceIte, Nat.reduceAdd, Nat.reduceMul, Nat.reduceSub, Nat.reduceEqDiff, Nat.reduceLeDiff, Nat.reduceLT, reduceCtorEq, Nat.succ_eq_add_one])
    | (refine goCall0 (fn129 _ _ _) rfl rfl ?_; simp only [go_sem, reduceIte, Nat.reduceAdd, Nat.reduceMul, Nat.reduceSub, Nat.reduceEqDiff, Nat.reduceLeDiff, Nat.reduceLT, reduceCtorEq, Nat.succ_eq_add_one])
    | refine Fin.eq0 _ rfl rfl rfl ?_
  all_goals simp_all [Msg.val, Msg.good, retOne] <;> omega
theorem fn118 (m : Msg) : Fn Try.prog 118 [.agg m.enc] [] (I m.val) [] [] := by
  refine Fn.of_go ok118 (by simp) ?_
  unfold s118 Msg.enc
  simp only [go_sem, reduceIte, Nat.reduceAdd, Nat.reduceMul, Nat.reduceSub, Nat.reduceEqDiff, Nat.reduceLeDiff, Nat.reduceLT, reduceCtorEq, Nat.succ_eq_add_one]
  repeat' first
    | (refine goG_split (fun h1 => ?_) (fun h1 => ?_) <;> simp only [h1, go_sem, reduceIte, Nat.reduceAdd, Nat.reduceMul, Nat.reduceSub, Nat.reduceEqDiff, Nat.reduceLeDiff, Nat.reduceLT, reduceCtorEq, Nat.succ_eq_add_one])
    | (refine goIf_split (fun h1 => ?_) (fun h1 => ?_) <;> simp only [h1, go_sem, reduceIte, Nat.reduceAdd, Nat.reduceMul, Nat.reduceSub, Nat.reduceEqDiff, Nat.reduceLeDiff, Nat.reduceLT, reduceCtorEq, Nat.succ_eq_add_one])
    | (refine goCall0 (fn130 _ _ _) rfl rfl ?_; simp only [go_sem, reduceIte, Nat.reduceAdd, Nat.reduceMul, Nat.reduceSub, Nat.reduceEqDiff, Nat.reduceLeDiff, Nat.reduceLT, reduceCtorEq, Nat.succ_eq_add_one])
    | refine Fin.eq0 _ rfl rfl rfl ?_
  all_goals simp_all [Msg.val, Msg.good, retOne] <;> omega
end Go.Eng
