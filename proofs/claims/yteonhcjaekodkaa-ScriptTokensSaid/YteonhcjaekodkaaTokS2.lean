/-
  Walks and plain lemmas for ScriptTokens: what the functions named below compute, over the abstract states of the engine.
  No condition beyond those that each theorem states.
-/
import Derived.Test.YteonhcjaekodkaaTokS1
set_option linter.all false
set_option linter.unusedSimpArgs false
namespace Go.Eng.Scr
open Go Go.Proofs

theorem tm (a m : Nat) : ((a : Nat) : Int).tmod ((m : Nat) : Int) = ((a % m : Nat) : Int) := rfl
theorem tm8 (a : Nat) : ((a : Nat) : Int).tmod 8 = ((a % 8 : Nat) : Int) := rfl

def refVar (b : List UInt8) (p : Nat) : Nat := (byteAt b (stepAt b p)).toNat % 8
def rawA (b : List UInt8) (p : Nat) : AV := if refVar b p = 7 then
  bsl [byteAt b (stepAt b (stepAt b p)), byteAt b (stepAt b (stepAt b (stepAt b p))), byteAt b (stepAt b (stepAt b (stepAt b (stepAt b p))))] else .v (.slice none 0 0)
theorem rawA_one (b : List UInt8) (p : Nat) : (rawA b p).one = true := by unfold rawA; split <;> rfl
theorem rawA_pure (b : List UInt8) (p : Nat) : (rawA b p).pure = true := by unfold rawA; split <;> rfl
attribute [go_sem] rawA_one rawA_pure
def refEnd (b : List UInt8) (p : Nat) : Nat := if refVar b p = 7 then stepAt b (stepAt b (stepAt b (stepAt b (stepAt b p)))) else stepAt b (stepAt b p)
def refC (b : List UInt8) (p : Nat) : List AV := [I (byteAt b p).toNat, I (refVar b p), rawA b p]
theorem refA_pure (b : List UInt8) (p : Nat) : (AV.agg (refC b p)).pure = true := by simp only [refC, go_sem, reduceIte, Nat.reduceAdd, Nat.reduceMul, Nat.reduceSub, Nat.reduceEqDiff, Nat.reduceLeDiff, Nat.reduceLT, reduceCtorEq, Nat.succ_eq_add_one]

theorem fn104 (b : List UInt8) (p : Nat) (hb : b.length ≤ 100000) : Fn Try.prog 104 [.ptr 0 0] [[bsl b, I p]] (.agg (refC b p)) [[bsl b, I (refEnd b p)]] [] := by
  refine Fn.of_go ok104 (by simp) ?_
  unfold s104
  simp only [go_sem, reduceIte, Nat.reduceAdd, Nat.reduceMul, Nat.reduceSub, Nat.reduceEqDiff, Nat.reduceLeDiff, Nat.reduceLT, reduceCtorEq, Nat.succ_eq_add_one]
  refine goCall1 (b := 0) (fn102 b p hb) ⟨rfl, trivial⟩ rfl rfl rfl rfl ?_
  simp only [tm8, go_sem, reduceIte, Nat.reduceAdd, Nat.reduceMul, Nat.reduceSub, Nat.reduceEqDiff, Nat.reduceLeDiff, Nat.reduceLT, reduceCtorEq, Nat.succ_eq_add_one]
  refine goCall1 (b := 0) (fn102 b _ hb) ⟨rfl, trivial⟩ rfl rfl rfl rfl ?_
  simp only [tm8, go_sem, reduceIte, Nat.reduceAdd, Nat.reduceMul, Nat.reduceSub, Nat.reduceEqDiff, Nat.reduceLeDiff, Nat.reduceLT, reduceCtorEq, Nat.succ_eq_add_one]
  refine ⟨by decide, ?_⟩
  refine goIf_split (fun h1 => ?_) (fun h1 => ?_) <;> simp only [h1, go_sem, reduceIte, Nat.reduceAdd, Nat.reduceMul, Nat.reduceSub, Nat.reduceEqDiff, Nat.reduceLeDiff, Nat.reduceLT, reduceCtorEq, Nat.succ_eq_add_one]
  · have h2 : refVar b p = 7 := by simp only [refVar]; simp at h1; omega
    refine goCall1 (b := 0) (fn103 b _ hb) ⟨rfl, trivial⟩ rfl rfl rfl rfl ?_
    simp only [tm8, go_sem, reduceIte, Nat.reduceAdd, Nat.reduceMul, Nat.reduceSub, Nat.reduceEqDiff, Nat.reduceLeDiff, Nat.reduceLT, reduceCtorEq, Nat.succ_eq_add_one]
    refine goCall1 (b := 0) (fn103 b _ hb) ⟨rfl, trivial⟩ rfl rfl rfl rfl ?_
    simp only [tm8, go_sem, reduceIte, Nat.reduceAdd, Nat.reduceMul, Nat.reduceSub, Nat.reduceEqDiff, Nat.reduceLeDiff, Nat.reduceLT, reduceCtorEq, Nat.succ_eq_add_one]
    refine goCall1 (b := 0) (fn103 b _ hb) ⟨rfl, trivial⟩ rfl rfl rfl rfl ?_
    simp only [tm8, List.replicate, List.set, go_sem, reduceIte, Nat.reduceAdd, Nat.reduceMul, Nat.reduceSub, Nat.reduceEqDiff, Nat.reduceLeDiff, Nat.reduceLT, reduceCtorEq, Nat.succ_eq_add_one]
    refine Fin.mk1 _ rfl rfl rfl ?_ ?_
    · rw [refEnd, if_pos h2]; exact rvL_pure _ rfl
    · simp only [refC, rawA, if_pos h2, rv, encB, go_sem, reduceIte, Nat.reduceAdd, Nat.reduceMul, Nat.reduceSub, Nat.reduceEqDiff, Nat.reduceLeDiff, Nat.reduceLT, reduceCtorEq, Nat.succ_eq_add_one]
      exact ⟨rfl, by decide⟩
  · have h2 : ¬ refVar b p = 7 := by simp only [refVar]; simp at h1; omega
    refine Fin.mk1 _ rfl rfl rfl ?_ ?_
    · rw [refEnd, if_neg h2]; exact rvL_pure _ rfl
    · simp only [refC, rawA, if_neg h2, rv, encB, go_sem, reduceIte, Nat.reduceAdd, Nat.reduceMul, Nat.reduceSub, Nat.reduceEqDiff, Nat.reduceLeDiff, Nat.reduceLT, reduceCtorEq, Nat.succ_eq_add_one]
      rfl
end Go.Eng.Scr
