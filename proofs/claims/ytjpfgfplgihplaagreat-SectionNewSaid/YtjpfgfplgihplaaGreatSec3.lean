/-
  Walks and plain lemmas for SectionNew: what the functions named below compute, over the abstract states of the engine.
  No condition beyond those that each theorem states.
-/
import Derived.Test.YtjpfgfplgihplaaGreatSec2
set_option linter.all false
set_option linter.unusedSimpArgs false
set_option maxRecDepth 20000
set_option maxHeartbeats 4000000
namespace Go.Eng
open Go Go.Proofs

theorem fn27 : Fn Tryz.prog 27 [] [] (.agg [Z, Z, Z, Z]) [] [] := by
  refine Fn.of_go ok27 (by simp) ?_
  unfold s27
  simp only [Int.cast_ofNat_Int, Int.reduceBEq, Int.reduceLT, Int.reduceLE, Int.reduceSub, Int.reduceAdd, Int.reduceNeg, Int.reduceEq, Int.reduceToNat, decide_true, decide_false, decide_eq_true_eq, beq_self_eq_true, bne_self_eq_false, List.reduceReplicate, List.length_set, List.length_replicate, List.length_cons, List.length_nil, List.set_cons_zero, List.set_cons_succ, Int.toNat_natCast, go_sem, reduceIte, Nat.reduceAdd, Nat.reduceMul, Nat.reduceSub, Nat.reduceEqDiff, Nat.reduceLeDiff, Nat.reduceLT, reduceCtorEq, Nat.succ_eq_add_one]
  exact Fin.eq0 _ rfl rfl rfl rfl

abbrev secS (l : AV) (n : Int) : List AV := [Z, Z, l, Z, Z, Z, Z, Z, Z, Z, Z, Nl, Z, Nl, Nl, Z, Nl, Nl, Nl, Z, Nl, Nl, Nl, Nl, I n, Nl]
noncomputable def secE (l : List Int) (n : Int) : Int := if errL l = 0 then (if n < 1 ∨ 8 < n then 1 else 0) else errL l
noncomputable def secL (l : List Int) (n : Int) : List AV := if secE l n = 0 then secS (slI l) n else secS Nl 0
noncomputable def secV (l : List Int) (n : Int) : AV := .tup [.agg (secL l n), I (secE l n)]

theorem lockR_pure (l : List Int) : (lockR l).pure = true := by
  unfold lockR; split <;> rfl
theorem secV_pure (l : List Int) (n : Int) : (secV l n).pure = true := by
  unfold secV secL; split <;> rfl

theorem fn9 (l : List Int) (n : Int) (hl : l.length ≤ 1000) : Fn Tryz.prog 9 [slI l, I n] [] (secV l n) [] [] := by
  refine Fn.of_go ok9 (by simp) ?_
  unfold s9
  simp only [Int.cast_ofNat_Int, Int.reduceBEq, Int.reduceLT, Int.reduceLE, Int.reduceSub, Int.reduceAdd, Int.reduceNeg, Int.reduceEq, Int.reduceToNat, decide_true, decide_false, decide_eq_true_eq, beq_self_eq_true, bne_self_eq_false, List.reduceReplicate, List.length_set, List.length_replicate, List.length_cons, List.length_nil, List.set_cons_zero, List.set_cons_succ, Int.toNat_natCast, go_sem, reduceIte, Nat.reduceAdd, Nat.reduceMul, Nat.reduceSub, Nat.reduceEqDiff, Nat.reduceLeDiff, Nat.reduceLT, reduceCtorEq, Nat.succ_eq_add_one]
  refine goCall0 (fn26 l hl) rfl (lockR_pure l) ?_
  by_cases h0 : errL l = 0
  · have e1 : lockR l = .tup [.agg [slI l, Z, Z, Z, Z], I 0] := by unfold lockR; rw [if_pos h0]
    simp only [e1, Int.cast_ofNat_Int, Int.reduceBEq, Int.reduceLT, Int.reduceLE, Int.reduceSub, Int.reduceAdd, Int.reduceNeg, Int.reduceEq, Int.reduceToNat, decide_true, decide_false, decide_eq_true_eq, beq_self_eq_true, bne_self_eq_false, List.reduceReplicate, List.length_set, List.length_replicate, List.length_cons, List.length_nil, List.set_cons_zero, List.set_cons_succ, Int.toNat_natCast, go_sem, reduceIte, Nat.reduceAdd, Nat.reduceMul, Nat.reduceSub, Nat.reduceEqDiff, Nat.reduceLeDiff, Nat.reduceLT, reduceCtorEq, Nat.succ_eq_add_one]
    by_cases h1 : n < 1
    · have e2 : secE l n = 1 := by unfold secE; rw [if_pos h0, if_pos (Or.inl h1)]
      have d1 : decide (n < 1) = true := by simp [h1]
      unfold secV secL
      rw [e2, if_neg (by decide)]
      simp only [d1, Int.cast_ofNat_Int, Int.reduceBEq, Int.reduceLT, Int.reduceLE, Int.reduceSub, Int.reduceAdd, Int.reduceNeg, Int.reduceEq, Int.reduceToNat, decide_true, decide_false, decide_eq_true_eq, beq_self_eq_true, bne_self_eq_false, List.reduceReplicate, List.length_set, List.length_replicate, List.length_cons, List.length_nil, List.set_cons_zero, List.set_cons_succ, Int.toNat_natCast, go_sem, reduceIte, Nat.reduceAdd, Nat.reduceMul, Nat.reduceSub, Nat.reduceEqDiff, Nat.reduceLeDiff, Nat.reduceLT, reduceCtorEq, Nat.succ_eq_add_one]
      exact Fin.eq0 _ rfl rfl rfl rfl
    have d1 : decide (n < 1) = false := by simp; omega
    by_cases h2 : 8 < n
    · have e2 : secE l n = 1 := by unfold secE; rw [if_pos h0, if_pos (Or.inr h2)]
      have d2 : decide (8 < n) = true := by simp [h2]
      unfold secV secL
      rw [e2, if_neg (by decide)]
      simp only [d1, d2, Int.cast_ofNat_Int, Int.reduceBEq, Int.reduceLT, Int.reduceLE, Int.reduceSub, Int.reduceAdd, Int.reduceNeg, Int.reduceEq, Int.reduceToNat, decide_true, decide_false, decide_eq_true_eq, beq_self_eq_true, bne_self_eq_false, List.reduceReplicate, List.length_set, List.length_replicate, List.length_cons, List.length_nil, List.set_cons_zero, List.set_cons_succ, Int.toNat_natCast, go_sem, reduceIte, Nat.reduceAdd, Nat.reduceMul, Nat.reduceSub, Nat.reduceEqDiff, Nat.reduceLeDiff, Nat.reduceLT, reduceCtorEq, Nat.succ_eq_add_one]
      exact Fin.eq0 _ rfl rfl rfl rfl
    have d2 : decide (8 < n) = false := by simp; omega
    have e2 : secE l n = 0 := by unfold secE; rw [if_pos h0, if_neg (by omega)]
    unfold secV secL
    rw [e2, if_pos rfl]
    simp only [d1, d2, Int.cast_ofNat_Int, Int.reduceBEq, Int.reduceLT, Int.reduceLE, Int.reduceSub, Int.reduceAdd, Int.reduceNeg, Int.reduceEq, Int.reduceToNat, decide_true, decide_false, decide_eq_true_eq, beq_self_eq_true, bne_self_eq_false, List.reduceReplicate, List.length_set, List.length_replicate, List.length_cons, List.length_nil, List.set_cons_zero, List.set_cons_succ, Int.toNat_natCast, go_sem, reduceIte, Nat.reduceAdd, Nat.reduceMul, Nat.reduceSub, Nat.reduceEqDiff, Nat.reduceLeDiff, Nat.reduceLT, reduceCtorEq, Nat.succ_eq_add_one]
    refine goCallD0 fn27 rfl rfl ?_
    simp only [Int.cast_ofNat_Int, Int.reduceBEq, Int.reduceLT, Int.reduceLE, Int.reduceSub, Int.reduceAdd, Int.reduceNeg, Int.reduceEq, Int.reduceToNat, decide_true, decide_false, decide_eq_true_eq, beq_self_eq_true, bne_self_eq_false, List.reduceReplicate, List.length_set, List.length_replicate, List.length_cons, List.length_nil, List.set_cons_zero, List.set_cons_succ, Int.toNat_natCast, go_sem, reduceIte, Nat.reduceAdd, Nat.reduceMul, Nat.reduceSub, Nat.reduceEqDiff, Nat.reduceLeDiff, Nat.reduceLT, reduceCtorEq, Nat.succ_eq_add_one]
    exact ⟨rfl, Fin.eq0 _ rfl rfl rfl rfl⟩
  · have e1 : lockR l = .tup [.agg lkZ, I (errL l)] := by unfold lockR; rw [if_neg h0]
    have e2 : secE l n = errL l := by unfold secE; rw [if_neg h0]
    have d1 : (errL l != 0) = true := by simp [h0]
    unfold secV secL
    rw [e2, if_neg h0]
    simp only [e1, d1, Int.cast_ofNat_Int, Int.reduceBEq, Int.reduceLT, Int.reduceLE, Int.reduceSub, Int.reduceAdd, Int.reduceNeg, Int.reduceEq, Int.reduceToNat, decide_true, decide_false, decide_eq_true_eq, beq_self_eq_true, bne_self_eq_false, List.reduceReplicate, List.length_set, List.length_replicate, List.length_cons, List.length_nil, List.set_cons_zero, List.set_cons_succ, Int.toNat_natCast, go_sem, reduceIte, Nat.reduceAdd, Nat.reduceMul, Nat.reduceSub, Nat.reduceEqDiff, Nat.reduceLeDiff, Nat.reduceLT, reduceCtorEq, Nat.succ_eq_add_one]
    exact Fin.eq0 _ rfl rfl rfl rfl
theorem fn10 (l : List Int) (n : Int) (hl : l.length ≤ 1000) : Fn Tryz.prog 10 [slI l, I n] [] (secV l n) [] [] := by
  refine Fn.of_go ok10 (by simp) ?_
  unfold s10
  simp only [Int.cast_ofNat_Int, Int.reduceBEq, Int.reduceLT, Int.reduceLE, Int.reduceSub, Int.reduceAdd, Int.reduceNeg, Int.reduceEq, Int.reduceToNat, decide_true, decide_false, decide_eq_true_eq, beq_self_eq_true, bne_self_eq_false, List.reduceReplicate, List.length_set, List.length_replicate, List.length_cons, List.length_nil, List.set_cons_zero, List.set_cons_succ, Int.toNat_natCast, go_sem, reduceIte, Nat.reduceAdd, Nat.reduceMul, Nat.reduceSub, Nat.reduceEqDiff, Nat.reduceLeDiff, Nat.reduceLT, reduceCtorEq, Nat.succ_eq_add_one]
  refine goCall0 (fn28 l hl) rfl (lockR_pure l) ?_
  by_cases h0 : errL l = 0
  · have e1 : lockR l = .tup [.agg [slI l, Z, Z, Z, Z], I 0] := by unfold lockR; rw [if_pos h0]
    simp only [e1, Int.cast_ofNat_Int, Int.reduceBEq, Int.reduceLT, Int.reduceLE, Int.reduceSub, Int.reduceAdd, Int.reduceNeg, Int.reduceEq, Int.reduceToNat, decide_true, decide_false, decide_eq_true_eq, beq_self_eq_true, bne_self_eq_false, List.reduceReplicate, List.length_set, List.length_replicate, List.length_cons, List.length_nil, List.set_cons_zero, List.set_cons_succ, Int.toNat_natCast, go_sem, reduceIte, Nat.reduceAdd, Nat.reduceMul, Nat.reduceSub, Nat.reduceEqDiff, Nat.reduceLeDiff, Nat.reduceLT, reduceCtorEq, Nat.succ_eq_add_one]
    by_cases h1 : n < 1
    · have e2 : secE l n = 1 := by unfold secE; rw [if_pos h0, if_pos (Or.inl h1)]
      have d1 : decide (n < 1) = true := by simp [h1]
      unfold secV secL
      rw [e2, if_neg (by decide)]
      simp only [d1, Int.cast_ofNat_Int, Int.reduceBEq, Int.reduceLT, Int.reduceLE, Int.reduceSub, Int.reduceAdd, Int.reduceNeg, Int.reduceEq, Int.reduceToNat, decide_true, decide_false, decide_eq_true_eq, beq_self_eq_true, bne_self_eq_false, List.reduceReplicate, List.length_set, List.length_replicate, List.length_cons, List.length_nil, List.set_cons_zero, List.set_cons_succ, Int.toNat_natCast, go_sem, reduceIte, Nat.reduceAdd, Nat.reduceMul, Nat.reduceSub, Nat.reduceEqDiff, Nat.reduceLeDiff, Nat.reduceLT, reduceCtorEq, Nat.succ_eq_add_one]
      exact Fin.eq0 _ rfl rfl rfl rfl
    have d1 : decide (n < 1) = false := by simp; omega
    by_cases h2 : 8 < n
    · have e2 : secE l n = 1 := by unfold secE; rw [if_pos h0, if_pos (Or.inr h2)]
      have d2 : decide (8 < n) = true := by simp [h2]
      unfold secV secL
      rw [e2, if_neg (by decide)]
      simp only [d1, d2, Int.cast_ofNat_Int, Int.reduceBEq, Int.reduceLT, Int.reduceLE, Int.reduceSub, Int.reduceAdd, Int.reduceNeg, Int.reduceEq, Int.reduceToNat, decide_true, decide_false, decide_eq_true_eq, beq_self_eq_true, bne_self_eq_false, List.reduceReplicate, List.length_set, List.length_replicate, List.length_cons, List.length_nil, List.set_cons_zero, List.set_cons_succ, Int.toNat_natCast, go_sem, reduceIte, Nat.reduceAdd, Nat.reduceMul, Nat.reduceSub, Nat.reduceEqDiff, Nat.reduceLeDiff, Nat.reduceLT, reduceCtorEq, Nat.succ_eq_add_one]
      exact Fin.eq0 _ rfl rfl rfl rfl
    have d2 : decide (8 < n) = false := by simp; omega
    have e2 : secE l n = 0 := by unfold secE; rw [if_pos h0, if_neg (by omega)]
    unfold secV secL
    rw [e2, if_pos rfl]
    simp only [d1, d2, Int.cast_ofNat_Int, Int.reduceBEq, Int.reduceLT, Int.reduceLE, Int.reduceSub, Int.reduceAdd, Int.reduceNeg, Int.reduceEq, Int.reduceToNat, decide_true, decide_false, decide_eq_true_eq, beq_self_eq_true, bne_self_eq_false, List.reduceReplicate, List.length_set, List.length_replicate, List.length_cons, List.length_nil, List.set_cons_zero, List.set_cons_succ, Int.toNat_natCast, go_sem, reduceIte, Nat.reduceAdd, Nat.reduceMul, Nat.reduceSub, Nat.reduceEqDiff, Nat.reduceLeDiff, Nat.reduceLT, reduceCtorEq, Nat.succ_eq_add_one]
    exact Fin.eq0 _ rfl rfl rfl rfl
  · have e1 : lockR l = .tup [.agg lkZ, I (errL l)] := by unfold lockR; rw [if_neg h0]
    have e2 : secE l n = errL l := by unfold secE; rw [if_neg h0]
    have d1 : (errL l != 0) = true := by simp [h0]
    unfold secV secL
    rw [e2, if_neg h0]
    simp only [e1, d1, Int.cast_ofNat_Int, Int.reduceBEq, Int.reduceLT, Int.reduceLE, Int.reduceSub, Int.reduceAdd, Int.reduceNeg, Int.reduceEq, Int.reduceToNat, decide_true, decide_false, decide_eq_true_eq, beq_self_eq_true, bne_self_eq_false, List.reduceReplicate, List.length_set, List.length_replicate, List.length_cons, List.length_nil, List.set_cons_zero, List.set_cons_succ, Int.toNat_natCast, go_sem, reduceIte, Nat.reduceAdd, Nat.reduceMul, Nat.reduceSub, Nat.reduceEqDiff, Nat.reduceLeDiff, Nat.reduceLT, reduceCtorEq, Nat.succ_eq_add_one]
    exact Fin.eq0 _ rfl rfl rfl rfl

end Go.Eng
