/-
  Walks and plain lemmas for SectionNew: what the functions named below compute, over the abstract states of the engine.
  No condition beyond those that each theorem states.
-/
import Derived.Test.YtjpfgfplgihplaaGreatSec3
import Derived.Test.YtjpfgfplgihplaaGreatTabSectionNew
set_option linter.all false
set_option linter.unusedSimpArgs false
set_option maxRecDepth 20000
set_option maxHeartbeats 4000000
namespace Go.Eng
open Go Go.Proofs

theorem fn59 (l : List Int) (hl : l.length ≤ 1000) : Fn Tryz.prog 59 [slI l, slI l] [] (Bo true) [] [] := by
  refine Fn.of_go ok59 (by simp) ?_
  unfold s59
  simp only [bneI, Int.cast_ofNat_Int, Int.reduceBEq, Int.reduceLT, Int.reduceLE, Int.reduceSub, Int.reduceAdd, Int.reduceNeg, Int.reduceEq, Int.reduceToNat, decide_true, decide_false, decide_eq_true_eq, beq_self_eq_true, bne_self_eq_false, List.reduceReplicate, List.length_set, List.length_replicate, List.length_cons, List.length_nil, List.set_cons_zero, List.set_cons_succ, Int.toNat_natCast, go_sem, reduceIte, Nat.reduceAdd, Nat.reduceMul, Nat.reduceSub, Nat.reduceEqDiff, Nat.reduceLeDiff, Nat.reduceLT, reduceCtorEq, Nat.succ_eq_add_one]
  refine go_loop (fun j : {j : Nat // j ≤ l.length} => ⟨1000, [(0, slI l), (1, slI l), (5, I j.1)], []⟩) (fun j => l.length - j.1) ⟨0, by omega⟩
    (Wk.mk [] [] rfl rfl (by simp only [go_sem, reduceIte, Nat.reduceAdd, Nat.reduceMul, Nat.reduceSub, Nat.reduceEqDiff, Nat.reduceLeDiff, Nat.reduceLT, reduceCtorEq, Nat.succ_eq_add_one]) (by simp only [go_sem, reduceIte, Nat.reduceAdd, Nat.reduceMul, Nat.reduceSub, Nat.reduceEqDiff, Nat.reduceLeDiff, Nat.reduceLT, reduceCtorEq, Nat.succ_eq_add_one]) (by simp only [rv, go_sem, reduceIte, Nat.reduceAdd, Nat.reduceMul, Nat.reduceSub, Nat.reduceEqDiff, Nat.reduceLeDiff, Nat.reduceLT, reduceCtorEq, Nat.succ_eq_add_one] <;> simp)) ?_
  intro j B hB
  obtain ⟨j, hj⟩ := j
  simp only [go_sem, reduceIte, Nat.reduceAdd, Nat.reduceMul, Nat.reduceSub, Nat.reduceEqDiff, Nat.reduceLeDiff, Nat.reduceLT, reduceCtorEq, Nat.succ_eq_add_one]
  refine goIf_split (fun h1 => ?_) (fun h1 => ?_) <;> simp only [h1, go_sem, reduceIte, Nat.reduceAdd, Nat.reduceMul, Nat.reduceSub, Nat.reduceEqDiff, Nat.reduceLeDiff, Nat.reduceLT, reduceCtorEq, Nat.succ_eq_add_one]
  · have e1 : j < l.length := by simp only [decide_eq_true_eq] at h1; omega
    simp only [Int.toNat_natCast, encI_gi e1, bneI, Int.cast_ofNat_Int, Int.reduceBEq, Int.reduceLT, Int.reduceLE, Int.reduceSub, Int.reduceAdd, Int.reduceNeg, Int.reduceEq, Int.reduceToNat, decide_true, decide_false, decide_eq_true_eq, beq_self_eq_true, bne_self_eq_false, List.reduceReplicate, List.length_set, List.length_replicate, List.length_cons, List.length_nil, List.set_cons_zero, List.set_cons_succ, Int.toNat_natCast, go_sem, reduceIte, Nat.reduceAdd, Nat.reduceMul, Nat.reduceSub, Nat.reduceEqDiff, Nat.reduceLeDiff, Nat.reduceLT, reduceCtorEq, Nat.succ_eq_add_one]
    refine ⟨⟨by omega, by omega⟩, ⟨by omega, by omega⟩, rfl, ?_⟩
    simp only [w64_succ (show j ≤ 100000 by omega), Int.cast_ofNat_Int, Int.reduceBEq, Int.reduceLT, Int.reduceLE, Int.reduceSub, Int.reduceAdd, Int.reduceNeg, Int.reduceEq, Int.reduceToNat, decide_true, decide_false, decide_eq_true_eq, beq_self_eq_true, bne_self_eq_false, List.reduceReplicate, List.length_set, List.length_replicate, List.length_cons, List.length_nil, List.set_cons_zero, List.set_cons_succ, Int.toNat_natCast, go_sem, reduceIte, Nat.reduceAdd, Nat.reduceMul, Nat.reduceSub, Nat.reduceEqDiff, Nat.reduceLeDiff, Nat.reduceLT, reduceCtorEq, Nat.succ_eq_add_one]
    exact hB _ ⟨j + 1, by omega⟩ (by simp only; omega) (Wk.mk [] [] rfl rfl (by simp only [go_sem, reduceIte, Nat.reduceAdd, Nat.reduceMul, Nat.reduceSub, Nat.reduceEqDiff, Nat.reduceLeDiff, Nat.reduceLT, reduceCtorEq, Nat.succ_eq_add_one]) (by simp only [go_sem, reduceIte, Nat.reduceAdd, Nat.reduceMul, Nat.reduceSub, Nat.reduceEqDiff, Nat.reduceLeDiff, Nat.reduceLT, reduceCtorEq, Nat.succ_eq_add_one]) (by simp only [rv, go_sem, reduceIte, Nat.reduceAdd, Nat.reduceMul, Nat.reduceSub, Nat.reduceEqDiff, Nat.reduceLeDiff, Nat.reduceLT, reduceCtorEq, Nat.succ_eq_add_one] <;> simp))
  · exact Fin.eq0 _ rfl rfl rfl rfl

theorem fn59z : Fn Tryz.prog 59 [Nl, Nl] [] (Bo true) [] [] := callP_ok code_ok (show callP code 1000 59 [Nl, Nl] = some (Bo true) by kernel_rfl)
theorem fn30z : Fn Tryz.prog 30 [Nl, Nl] [] (Bo true) [] [] := callP_ok code_ok (show callP code 1000 30 [Nl, Nl] = some (Bo true) by kernel_rfl)
theorem fn31z : Fn Tryz.prog 31 [.agg [Z, Nl], .agg [Z, Nl]] [] (Bo true) [] [] := callP_ok code_ok (show callP code 1000 31 [.agg [Z, Nl], .agg [Z, Nl]] = some (Bo true) by kernel_rfl)
theorem fn32z : Fn Tryz.prog 32 [Nl, Nl] [] (Bo true) [] [] := callP_ok code_ok (show callP code 1000 32 [Nl, Nl] = some (Bo true) by kernel_rfl)
theorem fn33z : Fn Tryz.prog 33 [.agg [Z, Nl, Nl], .agg [Z, Nl, Nl]] [] (Bo true) [] [] := callP_ok code_ok (show callP code 1000 33 [.agg [Z, Nl, Nl], .agg [Z, Nl, Nl]] = some (Bo true) by kernel_rfl)
theorem fn34z : Fn Tryz.prog 34 [.agg [Nl, Z, Nl, Nl, Nl, Nl], .agg [Nl, Z, Nl, Nl, Nl, Nl]] [] (Bo true) [] [] := callP_ok code_ok (show callP code 1000 34 [.agg [Nl, Z, Nl, Nl, Nl, Nl], .agg [Nl, Z, Nl, Nl, Nl, Nl]] = some (Bo true) by kernel_rfl)
theorem fn19z : Fn Tryz.prog 19 [Nl, Nl] [] (Bo true) [] [] := callP_ok code_ok (show callP code 1000 19 [Nl, Nl] = some (Bo true) by kernel_rfl)
end Go.Eng
