/-
  Walks and plain lemmas for DeadBuilt: what the functions named below compute, over the abstract states of the engine.
  No condition beyond those that each theorem states.
-/
import Derived.Test.YteonhcjaekodkaaDed7
set_option linter.all false
set_option linter.unusedSimpArgs false
set_option maxRecDepth 20000
set_option maxHeartbeats 4000000
namespace Go.Eng
open Go Go.Proofs
theorem invL_app {xs ys : List Msg} (h : invL xs = 0) : invL (xs ++ ys) = invL ys := by
  induction xs with
  | nil => rfl
  | cons m xs ih =>
    simp only [List.cons_append, invL] at h ⊢
    by_cases hm : m.val = 0
    · simp only [hm, ne_eq, not_true_eq_false, if_false] at h ⊢
      exact ih h
    · simp only [ne_eq, hm, not_false_eq_true, if_true] at h
theorem bne00 : ((0 : Int) != 0) = false := rfl
theorem bne10 : ((10 : Int) != 0) = true := rfl
attribute [go_sem] bne00 bne10
theorem fn83 (c : Int) (ms ls : List Msg) (hl : ms.length ≤ 10000) (hl' : ls.length ≤ 10000) : Fn Try.prog 83 [deadA c ms, slM ls] [] (dputA c ms ls) [] [] := by
  refine Fn.of_go ok83 (by simp) ?_
  unfold s83 dputA
  simp only [go_sem, reduceIte, Nat.reduceAdd, Nat.reduceMul, Nat.reduceSub, Nat.reduceEqDiff, Nat.reduceLeDiff, Nat.reduceLT, reduceCtorEq, Nat.succ_eq_add_one]
  refine goCall0 (fn84 c ms (by omega)) rfl rfl ?_
  simp only [go_sem, reduceIte, Nat.reduceAdd, Nat.reduceMul, Nat.reduceSub, Nat.reduceEqDiff, Nat.reduceLeDiff, Nat.reduceLT, reduceCtorEq, Nat.succ_eq_add_one]
  refine goIf_split (fun h1 => ?_) (fun h1 => ?_) <;> simp only [h1, go_sem, reduceIte, Nat.reduceAdd, Nat.reduceMul, Nat.reduceSub, Nat.reduceEqDiff, Nat.reduceLeDiff, Nat.reduceLT, reduceCtorEq, Nat.succ_eq_add_one]
  · have e : deadV c ms ≠ 0 := by simpa using h1
    rw [if_pos e]
    exact Fin.mk0 _ rfl rfl (by simp only [retOne, rv, rvL, encM, List.map_nil, go_sem, reduceIte, Nat.reduceAdd, Nat.reduceMul, Nat.reduceSub, Nat.reduceEqDiff, Nat.reduceLeDiff, Nat.reduceLT, reduceCtorEq, Nat.succ_eq_add_one])
  have e : deadV c ms = 0 := by simpa using h1
  have e0 := deadV_zero e
  rw [if_neg (show ¬ deadV c ms ≠ 0 from fun h => h e)]
  refine goCall0 (fn85 c ms (by omega)) rfl rfl ?_
  have er : roomV c ms = c - ms.length := by unfold roomV; rw [if_neg (fun h => h e)]
  simp only [er, Int.cast_ofNat_Int, Int.reduceBEq, Int.reduceLT, Int.reduceLE, Int.reduceSub, Int.reduceAdd, Int.reduceNeg, Int.reduceEq, Int.reduceToNat, decide_true, decide_false, decide_eq_true_eq, beq_self_eq_true, bne_self_eq_false, List.reduceReplicate, List.length_set, List.length_replicate, List.length_cons, List.length_nil, List.set_cons_zero, List.set_cons_succ, Int.toNat_natCast, go_sem, reduceIte, Nat.reduceAdd, Nat.reduceMul, Nat.reduceSub, Nat.reduceEqDiff, Nat.reduceLeDiff, Nat.reduceLT, reduceCtorEq, Nat.succ_eq_add_one]
  refine goIf_split (fun h2 => ?_) (fun h2 => ?_) <;> simp only [h2, go_sem, reduceIte, Nat.reduceAdd, Nat.reduceMul, Nat.reduceSub, Nat.reduceEqDiff, Nat.reduceLeDiff, Nat.reduceLT, reduceCtorEq, Nat.succ_eq_add_one]
  · have e2 : c - ms.length < ls.length := by simpa using h2
    rw [if_pos e2]
    exact Fin.mk0 _ rfl rfl (by simp only [retOne, rv, rvL, encM, List.map_nil, go_sem, reduceIte, Nat.reduceAdd, Nat.reduceMul, Nat.reduceSub, Nat.reduceEqDiff, Nat.reduceLeDiff, Nat.reduceLT, reduceCtorEq, Nat.succ_eq_add_one])
  have e2 : ¬ c - ms.length < ls.length := by simpa using h2
  rw [if_neg e2]
  have m1 : ms.length ≤ maxLen := Nat.le_trans (show _ ≤ 20000 by omega) (by decide)
  have m2 : ms.length + ls.length ≤ maxLen := Nat.le_trans (show _ ≤ 20000 by omega) (by decide)
  refine ⟨⟨by omega, m1⟩, ⟨by omega, m2, by omega⟩, ?_⟩
  have hs : sndV (ms ++ ls) = if invL ls ≠ 0 then invL ls else if dup (ms ++ ls) = true then 10 else 0 := by unfold sndV; rw [invL_app e0.2.2.2.1]
  refine goCallS0 (fn115 (ms ++ ls) (by simp only [List.length_append]; omega)) (by simp [rvL, rv, get, encM_app, List.take_of_length_le, encM_len]) rfl rfl ?_
  simp only [hs, go_sem, reduceIte, Nat.reduceAdd, Nat.reduceMul, Nat.reduceSub, Nat.reduceEqDiff, Nat.reduceLeDiff, Nat.reduceLT, reduceCtorEq, Nat.succ_eq_add_one]
  by_cases h3 : invL ls ≠ 0
  · have e3 : (invL ls != 0) = true := by simpa using h3
    simp only [if_pos h3, e3, go_sem, reduceIte, Nat.reduceAdd, Nat.reduceMul, Nat.reduceSub, Nat.reduceEqDiff, Nat.reduceLeDiff, Nat.reduceLT, reduceCtorEq, Nat.succ_eq_add_one]
    exact Fin.mk0 _ rfl rfl (by simp only [retOne, rv, rvL, encM, List.map_nil, go_sem, reduceIte, Nat.reduceAdd, Nat.reduceMul, Nat.reduceSub, Nat.reduceEqDiff, Nat.reduceLeDiff, Nat.reduceLT, reduceCtorEq, Nat.succ_eq_add_one])
  by_cases h4 : dup (ms ++ ls) = true
  · simp only [if_neg h3, if_pos h4, go_sem, reduceIte, Nat.reduceAdd, Nat.reduceMul, Nat.reduceSub, Nat.reduceEqDiff, Nat.reduceLeDiff, Nat.reduceLT, reduceCtorEq, Nat.succ_eq_add_one]
    exact Fin.mk0 _ rfl rfl (by simp only [retOne, rv, rvL, encM, List.map_nil, go_sem, reduceIte, Nat.reduceAdd, Nat.reduceMul, Nat.reduceSub, Nat.reduceEqDiff, Nat.reduceLeDiff, Nat.reduceLT, reduceCtorEq, Nat.succ_eq_add_one])
  · simp only [if_neg h3, if_neg h4, go_sem, reduceIte, Nat.reduceAdd, Nat.reduceMul, Nat.reduceSub, Nat.reduceEqDiff, Nat.reduceLeDiff, Nat.reduceLT, reduceCtorEq, Nat.succ_eq_add_one]
    exact Fin.mk0 _ rfl rfl (by simp [retOne, rv, rvL, get, encM_app, List.take_of_length_le, encM_len])
def tk6 (c : Int) (ms : List Msg) (k ep : Int) (j : {j : Nat // j ≤ ms.length}) : St :=
  ⟨2000, [(1, I k), (2, I ep), (3, .ptr 8 0), (6, .ptr 16 0), (10, .ptr 128 0), (11, .own 1508 7 0 (tk k ep (ms.take j.1)).1.length), (12, I j.1)],
    [(8, .box [I c, slM ms]), (16, .box [I 0, Nl]), (128, .box [I c, .own 1500 7 0 (tk k ep (ms.take j.1)).2.length]), (1500, .row 44 7 (encM (tk k ep (ms.take j.1)).2)), (1508, .row 44 7 (encM (tk k ep (ms.take j.1)).1))]⟩
theorem fn86 (c : Int) (ms : List Msg) (k ep : Int) (hl : ms.length ≤ 10000) : Fn Try.prog 86 [deadA c ms, I k, I ep] [] (takeA c ms k ep) [] [] := by
  refine Fn.of_go ok86 (by simp) ?_
  unfold s86 takeA validV
  simp only [go_sem, reduceIte, Nat.reduceAdd, Nat.reduceMul, Nat.reduceSub, Nat.reduceEqDiff, Nat.reduceLeDiff, Nat.reduceLT, reduceCtorEq, Nat.succ_eq_add_one]
  refine goCall0 (fn84 c ms (by omega)) rfl rfl ?_
  simp only [go_sem, reduceIte, Nat.reduceAdd, Nat.reduceMul, Nat.reduceSub, Nat.reduceEqDiff, Nat.reduceLeDiff, Nat.reduceLT, reduceCtorEq, Nat.succ_eq_add_one]
  refine goIf_split (fun h1 => ?_) (fun h1 => ?_) <;> simp only [h1, go_sem, reduceIte, Nat.reduceAdd, Nat.reduceMul, Nat.reduceSub, Nat.reduceEqDiff, Nat.reduceLeDiff, Nat.reduceLT, reduceCtorEq, Nat.succ_eq_add_one]
  · have e : deadV c ms ≠ 0 := by simpa using h1
    rw [if_pos e, if_pos e]
    exact Fin.mk0 _ rfl rfl (by simp only [retOne, rv, rvL, encM, List.map_nil, go_sem, reduceIte, Nat.reduceAdd, Nat.reduceMul, Nat.reduceSub, Nat.reduceEqDiff, Nat.reduceLeDiff, Nat.reduceLT, reduceCtorEq, Nat.succ_eq_add_one])
  have e : deadV c ms = 0 := by simpa using h1
  have e0 := deadV_zero e
  rw [if_neg (show ¬ deadV c ms ≠ 0 from fun h => h e)]
  have o1 : ((1 : Int) ≠ 0) = True := by simp
  by_cases h2 : k < 0
  · simp only [h2, decide_true, go_sem, reduceIte, Nat.reduceAdd, Nat.reduceMul, Nat.reduceSub, Nat.reduceEqDiff, Nat.reduceLeDiff, Nat.reduceLT, reduceCtorEq, Nat.succ_eq_add_one]
    have e5 : (if (if ep < 0 then (1 : Int) else if 65536 < ep then 1 else 0) ≠ 0 then AV.tup [deadA 0 [], slM [], I (if ep < 0 then (1 : Int) else if 65536 < ep then 1 else 0)] else AV.tup [deadA 0 [], slM [], I 1]) = AV.tup [deadA 0 [], slM [], I 1] := by
      by_cases a : ep < 0
      · simp [a]
      · by_cases b : 65536 < ep
        · simp [a, b]
        · simp [a, b]
    simp only [e5, if_true]
    exact Fin.mk0 _ rfl rfl (by simp only [retOne, rv, rvL, encM, List.map_nil, go_sem, reduceIte, Nat.reduceAdd, Nat.reduceMul, Nat.reduceSub, Nat.reduceEqDiff, Nat.reduceLeDiff, Nat.reduceLT, reduceCtorEq, Nat.succ_eq_add_one])
  by_cases h3 : ep < 0
  · simp only [h2, h3, o1, decide_true, decide_false, if_true, if_false, go_sem, reduceIte, Nat.reduceAdd, Nat.reduceMul, Nat.reduceSub, Nat.reduceEqDiff, Nat.reduceLeDiff, Nat.reduceLT, reduceCtorEq, Nat.succ_eq_add_one]
    exact Fin.mk0 _ rfl rfl (by simp only [retOne, rv, rvL, encM, List.map_nil, go_sem, reduceIte, Nat.reduceAdd, Nat.reduceMul, Nat.reduceSub, Nat.reduceEqDiff, Nat.reduceLeDiff, Nat.reduceLT, reduceCtorEq, Nat.succ_eq_add_one])
  by_cases h4 : 65536 < ep
  · simp only [h2, h3, h4, o1, decide_true, decide_false, if_true, if_false, go_sem, reduceIte, Nat.reduceAdd, Nat.reduceMul, Nat.reduceSub, Nat.reduceEqDiff, Nat.reduceLeDiff, Nat.reduceLT, reduceCtorEq, Nat.succ_eq_add_one]
    exact Fin.mk0 _ rfl rfl (by simp only [retOne, rv, rvL, encM, List.map_nil, go_sem, reduceIte, Nat.reduceAdd, Nat.reduceMul, Nat.reduceSub, Nat.reduceEqDiff, Nat.reduceLeDiff, Nat.reduceLT, reduceCtorEq, Nat.succ_eq_add_one])
  simp only [h2, h3, h4, decide_false, if_false, ne_eq, not_true_eq_false, go_sem, reduceIte, Nat.reduceAdd, Nat.reduceMul, Nat.reduceSub, Nat.reduceEqDiff, Nat.reduceLeDiff, Nat.reduceLT, reduceCtorEq, Nat.succ_eq_add_one]
  refine go_loop (tk6 c ms k ep) (fun j => ms.length - j.1) ⟨0, by omega⟩ (Wk.mk [(8, 8), (16, 16), (128, 184)] [1500, 1508] rfl rfl
    (by simp only [tk6, rvH, rvO, rvL, rv, tk, List.take_zero, List.foldl_nil, List.length_nil, go_sem, reduceIte, Nat.reduceAdd, Nat.reduceMul, Nat.reduceSub, Nat.reduceEqDiff, Nat.reduceLeDiff, Nat.reduceLT, reduceCtorEq, Nat.succ_eq_add_one]; simp) (by simp only [tk6, rvN, tk, encM, List.take_zero, List.foldl_nil, List.map_nil, go_sem, reduceIte, Nat.reduceAdd, Nat.reduceMul, Nat.reduceSub, Nat.reduceEqDiff, Nat.reduceLeDiff, Nat.reduceLT, reduceCtorEq, Nat.succ_eq_add_one]) (by simp only [tk6, rv, tk, List.take_zero, List.foldl_nil, List.length_nil, Int.cast_ofNat_Int, Int.reduceBEq, Int.reduceLT, Int.reduceLE, Int.reduceSub, Int.reduceAdd, Int.reduceNeg, Int.reduceEq, Int.reduceToNat, decide_true, decide_false, decide_eq_true_eq, beq_self_eq_true, bne_self_eq_false, List.reduceReplicate, List.length_set, List.length_replicate, List.length_cons, List.length_nil, List.set_cons_zero, List.set_cons_succ, Int.toNat_natCast, go_sem, reduceIte, Nat.reduceAdd, Nat.reduceMul, Nat.reduceSub, Nat.reduceEqDiff, Nat.reduceLeDiff, Nat.reduceLT, reduceCtorEq, Nat.succ_eq_add_one]; simp)) ?_
  intro j B hB
  unfold tk6
  simp only [go_sem, reduceIte, Nat.reduceAdd, Nat.reduceMul, Nat.reduceSub, Nat.reduceEqDiff, Nat.reduceLeDiff, Nat.reduceLT, reduceCtorEq, Nat.succ_eq_add_one]
  refine goIf_split (fun h3 => ?_) (fun h3 => ?_) <;> simp only [h3, go_sem, reduceIte, Nat.reduceAdd, Nat.reduceMul, Nat.reduceSub, Nat.reduceEqDiff, Nat.reduceLeDiff, Nat.reduceLT, reduceCtorEq, Nat.succ_eq_add_one]
  · have e1 : j.1 < ms.length := by simp only [decide_eq_true_eq] at h3; omega
    have e3 := tk_step k ep e1
    have e4 := tk_len k ep (ms.take j.1)
    have e5 : (ms.take j.1).length ≤ 10000 := by simp only [List.length_take]; omega
    have hq : 0 ≤ (j.1 : Int) ∧ (j.1 : Int) < (ms.length : Int) := ⟨by omega, by omega⟩
    have m1 : (tk k ep (ms.take j.1)).1.length + 1 ≤ maxLen := Nat.le_trans (show _ ≤ 20000 by omega) (by decide)
    have m2 : (tk k ep (ms.take j.1)).2.length + 1 ≤ maxLen := Nat.le_trans (show _ ≤ 20000 by omega) (by decide)
    have e10 : ms[j.1].enc.length = 7 := rfl
    have e11 : ms[j.1].enc.take 7 = ms[j.1].enc := rfl
    by_cases h4 : ((tk k ep (ms.take j.1)).1.length : Int) < k
    · simp only [h4, decide_true, Int.toNat_natCast, encM_nth e1, e10, e11, go_sem, reduceIte, Nat.reduceAdd, Nat.reduceMul, Nat.reduceSub, Nat.reduceEqDiff, Nat.reduceLeDiff, Nat.reduceLT, reduceCtorEq, Nat.succ_eq_add_one]
      refine ⟨hq, ?_⟩
      refine goCall0 (fn116 _ ep) rfl rfl ?_
      simp only [go_sem, reduceIte, Nat.reduceAdd, Nat.reduceMul, Nat.reduceSub, Nat.reduceEqDiff, Nat.reduceLeDiff, Nat.reduceLT, reduceCtorEq, Nat.succ_eq_add_one]
      by_cases h5 : ms[j.1].epoch < ep
      · have e6 : tk k ep (ms.take (j.1 + 1)) = ((tk k ep (ms.take j.1)).1, (tk k ep (ms.take j.1)).2 ++ [ms[j.1]]) := by rw [e3]; unfold tkS; rw [if_pos h4, if_pos h5]
        simp only [h5, decide_true, Int.toNat_natCast, encM_nth e1, e10, e11, w64_succ (show j.1 ≤ 100000 by omega), encM_take, List.take_length, List.drop_zero, Int.cast_ofNat_Int, Int.reduceBEq, Int.reduceLT, Int.reduceLE, Int.reduceSub, Int.reduceAdd, Int.reduceNeg, Int.reduceEq, Int.reduceToNat, decide_true, decide_false, decide_eq_true_eq, beq_self_eq_true, bne_self_eq_false, List.reduceReplicate, List.length_set, List.length_replicate, List.length_cons, List.length_nil, List.set_cons_zero, List.set_cons_succ, Int.toNat_natCast, go_sem, reduceIte, Nat.reduceAdd, Nat.reduceMul, Nat.reduceSub, Nat.reduceEqDiff, Nat.reduceLeDiff, Nat.reduceLT, reduceCtorEq, Nat.succ_eq_add_one]
        exact ⟨hq, ⟨by omega, m2, by omega⟩, rfl, hB _ ⟨j.1 + 1, e1⟩ (by simp only; omega) (Wk.mk [(8, 8), (16, 16), (128, 128), (1500, 2216), (1508, 1508)] [] rfl rfl (by simp only [tk6, e6, rvH, rvO, rvL, rv, encM_app, encM_one, List.length_append, List.map_cons, List.map_nil, Int.cast_ofNat_Int, Int.reduceBEq, Int.reduceLT, Int.reduceLE, Int.reduceSub, Int.reduceAdd, Int.reduceNeg, Int.reduceEq, Int.reduceToNat, decide_true, decide_false, decide_eq_true_eq, beq_self_eq_true, bne_self_eq_false, List.reduceReplicate, List.length_set, List.length_replicate, List.length_cons, List.length_nil, List.set_cons_zero, List.set_cons_succ, Int.toNat_natCast, go_sem, reduceIte, Nat.reduceAdd, Nat.reduceMul, Nat.reduceSub, Nat.reduceEqDiff, Nat.reduceLeDiff, Nat.reduceLT, reduceCtorEq, Nat.succ_eq_add_one]) (by simp only [tk6, go_sem, reduceIte, Nat.reduceAdd, Nat.reduceMul, Nat.reduceSub, Nat.reduceEqDiff, Nat.reduceLeDiff, Nat.reduceLT, reduceCtorEq, Nat.succ_eq_add_one]) (by simp only [tk6, e6, rv, go_sem, reduceIte, Nat.reduceAdd, Nat.reduceMul, Nat.reduceSub, Nat.reduceEqDiff, Nat.reduceLeDiff, Nat.reduceLT, reduceCtorEq, Nat.succ_eq_add_one]))⟩
      · have e6 : tk k ep (ms.take (j.1 + 1)) = ((tk k ep (ms.take j.1)).1 ++ [ms[j.1]], (tk k ep (ms.take j.1)).2) := by rw [e3]; unfold tkS; rw [if_pos h4, if_neg h5]
        simp only [h5, decide_false, Int.toNat_natCast, encM_nth e1, e10, e11, w64_succ (show j.1 ≤ 100000 by omega), encM_take, List.take_length, List.drop_zero, Int.cast_ofNat_Int, Int.reduceBEq, Int.reduceLT, Int.reduceLE, Int.reduceSub, Int.reduceAdd, Int.reduceNeg, Int.reduceEq, Int.reduceToNat, decide_true, decide_false, decide_eq_true_eq, beq_self_eq_true, bne_self_eq_false, List.reduceReplicate, List.length_set, List.length_replicate, List.length_cons, List.length_nil, List.set_cons_zero, List.set_cons_succ, Int.toNat_natCast, go_sem, reduceIte, Nat.reduceAdd, Nat.reduceMul, Nat.reduceSub, Nat.reduceEqDiff, Nat.reduceLeDiff, Nat.reduceLT, reduceCtorEq, Nat.succ_eq_add_one]
        exact ⟨hq, ⟨by omega, m1, by omega⟩, hB _ ⟨j.1 + 1, e1⟩ (by simp only; omega) (Wk.mk [(8, 8), (16, 16), (128, 128), (1500, 1500), (1508, 2208)] [] rfl rfl (by simp only [tk6, e6, rvH, rvO, rvL, rv, encM_app, encM_one, List.length_append, List.map_cons, List.map_nil, Int.cast_ofNat_Int, Int.reduceBEq, Int.reduceLT, Int.reduceLE, Int.reduceSub, Int.reduceAdd, Int.reduceNeg, Int.reduceEq, Int.reduceToNat, decide_true, decide_false, decide_eq_true_eq, beq_self_eq_true, bne_self_eq_false, List.reduceReplicate, List.length_set, List.length_replicate, List.length_cons, List.length_nil, List.set_cons_zero, List.set_cons_succ, Int.toNat_natCast, go_sem, reduceIte, Nat.reduceAdd, Nat.reduceMul, Nat.reduceSub, Nat.reduceEqDiff, Nat.reduceLeDiff, Nat.reduceLT, reduceCtorEq, Nat.succ_eq_add_one]) (by simp only [tk6, go_sem, reduceIte, Nat.reduceAdd, Nat.reduceMul, Nat.reduceSub, Nat.reduceEqDiff, Nat.reduceLeDiff, Nat.reduceLT, reduceCtorEq, Nat.succ_eq_add_one]) (by simp only [tk6, e6, rv, List.length_append, Int.cast_ofNat_Int, Int.reduceBEq, Int.reduceLT, Int.reduceLE, Int.reduceSub, Int.reduceAdd, Int.reduceNeg, Int.reduceEq, Int.reduceToNat, decide_true, decide_false, decide_eq_true_eq, beq_self_eq_true, bne_self_eq_false, List.reduceReplicate, List.length_set, List.length_replicate, List.length_cons, List.length_nil, List.set_cons_zero, List.set_cons_succ, Int.toNat_natCast, go_sem, reduceIte, Nat.reduceAdd, Nat.reduceMul, Nat.reduceSub, Nat.reduceEqDiff, Nat.reduceLeDiff, Nat.reduceLT, reduceCtorEq, Nat.succ_eq_add_one]))⟩
    · have e6 : tk k ep (ms.take (j.1 + 1)) = ((tk k ep (ms.take j.1)).1, (tk k ep (ms.take j.1)).2 ++ [ms[j.1]]) := by rw [e3]; unfold tkS; rw [if_neg h4]
      simp only [h4, decide_false, Int.toNat_natCast, encM_nth e1, e10, e11, w64_succ (show j.1 ≤ 100000 by omega), encM_take, List.take_length, List.drop_zero, Int.cast_ofNat_Int, Int.reduceBEq, Int.reduceLT, Int.reduceLE, Int.reduceSub, Int.reduceAdd, Int.reduceNeg, Int.reduceEq, Int.reduceToNat, decide_true, decide_false, decide_eq_true_eq, beq_self_eq_true, bne_self_eq_false, List.reduceReplicate, List.length_set, List.length_replicate, List.length_cons, List.length_nil, List.set_cons_zero, List.set_cons_succ, Int.toNat_natCast, go_sem, reduceIte, Nat.reduceAdd, Nat.reduceMul, Nat.reduceSub, Nat.reduceEqDiff, Nat.reduceLeDiff, Nat.reduceLT, reduceCtorEq, Nat.succ_eq_add_one]
      exact ⟨hq, ⟨by omega, m2, by omega⟩, rfl, hB _ ⟨j.1 + 1, e1⟩ (by simp only; omega) (Wk.mk [(8, 8), (16, 16), (128, 128), (1500, 2216), (1508, 1508)] [] rfl rfl (by simp only [tk6, e6, rvH, rvO, rvL, rv, encM_app, encM_one, List.length_append, List.map_cons, List.map_nil, Int.cast_ofNat_Int, Int.reduceBEq, Int.reduceLT, Int.reduceLE, Int.reduceSub, Int.reduceAdd, Int.reduceNeg, Int.reduceEq, Int.reduceToNat, decide_true, decide_false, decide_eq_true_eq, beq_self_eq_true, bne_self_eq_false, List.reduceReplicate, List.length_set, List.length_replicate, List.length_cons, List.length_nil, List.set_cons_zero, List.set_cons_succ, Int.toNat_natCast, go_sem, reduceIte, Nat.reduceAdd, Nat.reduceMul, Nat.reduceSub, Nat.reduceEqDiff, Nat.reduceLeDiff, Nat.reduceLT, reduceCtorEq, Nat.succ_eq_add_one]) (by simp only [tk6, go_sem, reduceIte, Nat.reduceAdd, Nat.reduceMul, Nat.reduceSub, Nat.reduceEqDiff, Nat.reduceLeDiff, Nat.reduceLT, reduceCtorEq, Nat.succ_eq_add_one]) (by simp only [tk6, e6, rv, go_sem, reduceIte, Nat.reduceAdd, Nat.reduceMul, Nat.reduceSub, Nat.reduceEqDiff, Nat.reduceLeDiff, Nat.reduceLT, reduceCtorEq, Nat.succ_eq_add_one]))⟩
  · have e1 : j.1 = ms.length := by have := j.2; simp only [decide_eq_false_iff_not] at h3; omega
    have e3 : ms.take j.1 = ms := by rw [e1, List.take_length]
    refine Fin.mk0 _ rfl rfl ?_
    simp only [e3, retOne, rv, rvL, encM_take, List.take_length, List.drop_zero, List.map_nil, List.not_mem_nil, not_false_eq_true, true_and, Int.cast_ofNat_Int, Int.reduceBEq, Int.reduceLT, Int.reduceLE, Int.reduceSub, Int.reduceAdd, Int.reduceNeg, Int.reduceEq, Int.reduceToNat, decide_true, decide_false, decide_eq_true_eq, beq_self_eq_true, bne_self_eq_false, List.reduceReplicate, List.length_set, List.length_replicate, List.length_cons, List.length_nil, List.set_cons_zero, List.set_cons_succ, Int.toNat_natCast, go_sem, reduceIte, Nat.reduceAdd, Nat.reduceMul, Nat.reduceSub, Nat.reduceEqDiff, Nat.reduceLeDiff, Nat.reduceLT, reduceCtorEq, Nat.succ_eq_add_one]
    simp
def cl7 (c : Int) (ms : List Msg) (ep : Int) (j : {j : Nat // j ≤ ms.length}) : St :=
  ⟨2000, [(1, I ep), (2, .ptr 8 0), (4, .ptr 16 0), (8, .ptr 128 0), (9, I j.1)],
    [(8, .box [I c, slM ms]), (16, .box [I 0, Nl]), (128, .box [I c, .own 1500 7 0 (keep ep (ms.take j.1)).length]), (1500, .row 44 7 (encM (keep ep (ms.take j.1))))]⟩
theorem fn87 (c : Int) (ms : List Msg) (ep : Int) (hl : ms.length ≤ 10000) : Fn Try.prog 87 [deadA c ms, I ep] [] (cleanA c ms ep) [] [] := by
  refine Fn.of_go ok87 (by simp) ?_
  unfold s87 cleanA validV
  simp only [go_sem, reduceIte, Nat.reduceAdd, Nat.reduceMul, Nat.reduceSub, Nat.reduceEqDiff, Nat.reduceLeDiff, Nat.reduceLT, reduceCtorEq, Nat.succ_eq_add_one]
  refine goCall0 (fn84 c ms (by omega)) rfl rfl ?_
  simp only [go_sem, reduceIte, Nat.reduceAdd, Nat.reduceMul, Nat.reduceSub, Nat.reduceEqDiff, Nat.reduceLeDiff, Nat.reduceLT, reduceCtorEq, Nat.succ_eq_add_one]
  refine goIf_split (fun h1 => ?_) (fun h1 => ?_) <;> simp only [h1, go_sem, reduceIte, Nat.reduceAdd, Nat.reduceMul, Nat.reduceSub, Nat.reduceEqDiff, Nat.reduceLeDiff, Nat.reduceLT, reduceCtorEq, Nat.succ_eq_add_one]
  · have e : deadV c ms ≠ 0 := by simpa using h1
    rw [if_pos e, if_pos e]
    exact Fin.mk0 _ rfl rfl (by simp only [retOne, rv, rvL, encM, List.map_nil, go_sem, reduceIte, Nat.reduceAdd, Nat.reduceMul, Nat.reduceSub, Nat.reduceEqDiff, Nat.reduceLeDiff, Nat.reduceLT, reduceCtorEq, Nat.succ_eq_add_one])
  have e : deadV c ms = 0 := by simpa using h1
  have e0 := deadV_zero e
  rw [if_neg (show ¬ deadV c ms ≠ 0 from fun h => h e)]
  have o1 : ((1 : Int) ≠ 0) = True := by simp
  by_cases h3 : ep < 0
  · simp only [h3, o1, decide_true, decide_false, if_true, if_false, go_sem, reduceIte, Nat.reduceAdd, Nat.reduceMul, Nat.reduceSub, Nat.reduceEqDiff, Nat.reduceLeDiff, Nat.reduceLT, reduceCtorEq, Nat.succ_eq_add_one]
    exact Fin.mk0 _ rfl rfl (by simp only [retOne, rv, rvL, encM, List.map_nil, o1, if_true, go_sem, reduceIte, Nat.reduceAdd, Nat.reduceMul, Nat.reduceSub, Nat.reduceEqDiff, Nat.reduceLeDiff, Nat.reduceLT, reduceCtorEq, Nat.succ_eq_add_one])
  by_cases h4 : 65536 < ep
  · simp only [h3, h4, o1, decide_true, decide_false, if_true, if_false, go_sem, reduceIte, Nat.reduceAdd, Nat.reduceMul, Nat.reduceSub, Nat.reduceEqDiff, Nat.reduceLeDiff, Nat.reduceLT, reduceCtorEq, Nat.succ_eq_add_one]
    exact Fin.mk0 _ rfl rfl (by simp only [retOne, rv, rvL, encM, List.map_nil, o1, if_true, go_sem, reduceIte, Nat.reduceAdd, Nat.reduceMul, Nat.reduceSub, Nat.reduceEqDiff, Nat.reduceLeDiff, Nat.reduceLT, reduceCtorEq, Nat.succ_eq_add_one])
  simp only [h3, h4, decide_false, if_false, ne_eq, not_true_eq_false, go_sem, reduceIte, Nat.reduceAdd, Nat.reduceMul, Nat.reduceSub, Nat.reduceEqDiff, Nat.reduceLeDiff, Nat.reduceLT, reduceCtorEq, Nat.succ_eq_add_one]
  refine go_loop (cl7 c ms ep) (fun j => ms.length - j.1) ⟨0, by omega⟩ (Wk.mk [(8, 8), (16, 16), (128, 152)] [1500] rfl rfl
    (by simp only [cl7, rvH, rvO, rvL, rv, keep, List.take_zero, List.filter_nil, List.length_nil, go_sem, reduceIte, Nat.reduceAdd, Nat.reduceMul, Nat.reduceSub, Nat.reduceEqDiff, Nat.reduceLeDiff, Nat.reduceLT, reduceCtorEq, Nat.succ_eq_add_one]; try simp) (by simp only [cl7, rvN, keep, encM, List.take_zero, List.filter_nil, List.map_nil, go_sem, reduceIte, Nat.reduceAdd, Nat.reduceMul, Nat.reduceSub, Nat.reduceEqDiff, Nat.reduceLeDiff, Nat.reduceLT, reduceCtorEq, Nat.succ_eq_add_one]) (by simp only [cl7, rv, keep, List.take_zero, List.filter_nil, List.length_nil, Int.cast_ofNat_Int, Int.reduceBEq, Int.reduceLT, Int.reduceLE, Int.reduceSub, Int.reduceAdd, Int.reduceNeg, Int.reduceEq, Int.reduceToNat, decide_true, decide_false, decide_eq_true_eq, beq_self_eq_true, bne_self_eq_false, List.reduceReplicate, List.length_set, List.length_replicate, List.length_cons, List.length_nil, List.set_cons_zero, List.set_cons_succ, Int.toNat_natCast, go_sem, reduceIte, Nat.reduceAdd, Nat.reduceMul, Nat.reduceSub, Nat.reduceEqDiff, Nat.reduceLeDiff, Nat.reduceLT, reduceCtorEq, Nat.succ_eq_add_one]; try simp)) ?_
  intro j B hB
  unfold cl7
  simp only [go_sem, reduceIte, Nat.reduceAdd, Nat.reduceMul, Nat.reduceSub, Nat.reduceEqDiff, Nat.reduceLeDiff, Nat.reduceLT, reduceCtorEq, Nat.succ_eq_add_one]
  refine goIf_split (fun h3 => ?_) (fun h3 => ?_) <;> simp only [h3, go_sem, reduceIte, Nat.reduceAdd, Nat.reduceMul, Nat.reduceSub, Nat.reduceEqDiff, Nat.reduceLeDiff, Nat.reduceLT, reduceCtorEq, Nat.succ_eq_add_one]
  · have e1 : j.1 < ms.length := by simp only [decide_eq_true_eq] at h3; omega
    have kt := keep_take (ep := ep) e1
    have kl := keep_len ep ms j.1
    have hq : 0 ≤ (j.1 : Int) ∧ (j.1 : Int) < (ms.length : Int) := ⟨by omega, by omega⟩
    have hmax : (keep ep (ms.take j.1)).length + 1 ≤ maxLen := Nat.le_trans (show _ ≤ 20000 by omega) (by decide)
    have e10 : ms[j.1].enc.length = 7 := rfl
    have e11 : ms[j.1].enc.take 7 = ms[j.1].enc := rfl
    simp only [Int.toNat_natCast, encM_nth e1, e10, e11, go_sem, reduceIte, Nat.reduceAdd, Nat.reduceMul, Nat.reduceSub, Nat.reduceEqDiff, Nat.reduceLeDiff, Nat.reduceLT, reduceCtorEq, Nat.succ_eq_add_one]
    refine ⟨hq, ?_⟩
    refine goCall0 (fn116 _ ep) rfl rfl ?_
    simp only [go_sem, reduceIte, Nat.reduceAdd, Nat.reduceMul, Nat.reduceSub, Nat.reduceEqDiff, Nat.reduceLeDiff, Nat.reduceLT, reduceCtorEq, Nat.succ_eq_add_one]
    by_cases h5 : ms[j.1].epoch < ep
    · have e7 : keep ep (ms.take (j.1 + 1)) = keep ep (ms.take j.1) := by rw [kt, if_pos]; simp [prg]; omega
      simp only [h5, decide_true, w64_succ (show j.1 ≤ 100000 by omega), Int.cast_ofNat_Int, Int.reduceBEq, Int.reduceLT, Int.reduceLE, Int.reduceSub, Int.reduceAdd, Int.reduceNeg, Int.reduceEq, Int.reduceToNat, decide_true, decide_false, decide_eq_true_eq, beq_self_eq_true, bne_self_eq_false, List.reduceReplicate, List.length_set, List.length_replicate, List.length_cons, List.length_nil, List.set_cons_zero, List.set_cons_succ, Int.toNat_natCast, go_sem, reduceIte, Nat.reduceAdd, Nat.reduceMul, Nat.reduceSub, Nat.reduceEqDiff, Nat.reduceLeDiff, Nat.reduceLT, reduceCtorEq, Nat.succ_eq_add_one]
      exact hB _ ⟨j.1 + 1, e1⟩ (by simp only; omega) (Wk.mk [(8, 8), (16, 16), (128, 128), (1500, 1500)] [] rfl rfl (by simp only [cl7, e7, rvH, rvO, rvL, rv, go_sem, reduceIte, Nat.reduceAdd, Nat.reduceMul, Nat.reduceSub, Nat.reduceEqDiff, Nat.reduceLeDiff, Nat.reduceLT, reduceCtorEq, Nat.succ_eq_add_one]) (by simp only [cl7, go_sem, reduceIte, Nat.reduceAdd, Nat.reduceMul, Nat.reduceSub, Nat.reduceEqDiff, Nat.reduceLeDiff, Nat.reduceLT, reduceCtorEq, Nat.succ_eq_add_one]) (by simp only [cl7, e7, rv, Int.cast_ofNat_Int, Int.reduceBEq, Int.reduceLT, Int.reduceLE, Int.reduceSub, Int.reduceAdd, Int.reduceNeg, Int.reduceEq, Int.reduceToNat, decide_true, decide_false, decide_eq_true_eq, beq_self_eq_true, bne_self_eq_false, List.reduceReplicate, List.length_set, List.length_replicate, List.length_cons, List.length_nil, List.set_cons_zero, List.set_cons_succ, Int.toNat_natCast, go_sem, reduceIte, Nat.reduceAdd, Nat.reduceMul, Nat.reduceSub, Nat.reduceEqDiff, Nat.reduceLeDiff, Nat.reduceLT, reduceCtorEq, Nat.succ_eq_add_one]))
    · have e7 : keep ep (ms.take (j.1 + 1)) = keep ep (ms.take j.1) ++ [ms[j.1]] := by rw [kt, if_neg]; simp [prg]; omega
      simp only [h5, decide_false, Int.toNat_natCast, encM_nth e1, e10, e11, w64_succ (show j.1 ≤ 100000 by omega), encM_takeL, Int.cast_ofNat_Int, Int.reduceBEq, Int.reduceLT, Int.reduceLE, Int.reduceSub, Int.reduceAdd, Int.reduceNeg, Int.reduceEq, Int.reduceToNat, decide_true, decide_false, decide_eq_true_eq, beq_self_eq_true, bne_self_eq_false, List.reduceReplicate, List.length_set, List.length_replicate, List.length_cons, List.length_nil, List.set_cons_zero, List.set_cons_succ, Int.toNat_natCast, go_sem, reduceIte, Nat.reduceAdd, Nat.reduceMul, Nat.reduceSub, Nat.reduceEqDiff, Nat.reduceLeDiff, Nat.reduceLT, reduceCtorEq, Nat.succ_eq_add_one]
      exact ⟨hq, ⟨by omega, hmax, by omega⟩, rfl, hB _ ⟨j.1 + 1, e1⟩ (by simp only; omega) (Wk.mk [(8, 8), (16, 16), (128, 128), (1500, 2168)] [] rfl rfl (by simp only [cl7, e7, rvH, rvO, rvL, rv, encM_app, encM_one, List.length_append, Int.cast_ofNat_Int, Int.reduceBEq, Int.reduceLT, Int.reduceLE, Int.reduceSub, Int.reduceAdd, Int.reduceNeg, Int.reduceEq, Int.reduceToNat, decide_true, decide_false, decide_eq_true_eq, beq_self_eq_true, bne_self_eq_false, List.reduceReplicate, List.length_set, List.length_replicate, List.length_cons, List.length_nil, List.set_cons_zero, List.set_cons_succ, Int.toNat_natCast, go_sem, reduceIte, Nat.reduceAdd, Nat.reduceMul, Nat.reduceSub, Nat.reduceEqDiff, Nat.reduceLeDiff, Nat.reduceLT, reduceCtorEq, Nat.succ_eq_add_one]) (by simp only [cl7, go_sem, reduceIte, Nat.reduceAdd, Nat.reduceMul, Nat.reduceSub, Nat.reduceEqDiff, Nat.reduceLeDiff, Nat.reduceLT, reduceCtorEq, Nat.succ_eq_add_one]) (by simp only [cl7, e7, rv, List.length_append, Int.cast_ofNat_Int, Int.reduceBEq, Int.reduceLT, Int.reduceLE, Int.reduceSub, Int.reduceAdd, Int.reduceNeg, Int.reduceEq, Int.reduceToNat, decide_true, decide_false, decide_eq_true_eq, beq_self_eq_true, bne_self_eq_false, List.reduceReplicate, List.length_set, List.length_replicate, List.length_cons, List.length_nil, List.set_cons_zero, List.set_cons_succ, Int.toNat_natCast, go_sem, reduceIte, Nat.reduceAdd, Nat.reduceMul, Nat.reduceSub, Nat.reduceEqDiff, Nat.reduceLeDiff, Nat.reduceLT, reduceCtorEq, Nat.succ_eq_add_one]))⟩
  · have e1 : j.1 = ms.length := by have := j.2; simp only [decide_eq_false_iff_not] at h3; omega
    have kl := keep_le ep ms
    have e7 : IntKind.i64.wrap ((ms.length : Int) - (keep ep ms).length) = (ms.length : Int) - (keep ep ms).length := w64 (by omega)
    simp only [e1, List.take_length, e7, Int.cast_ofNat_Int, Int.reduceBEq, Int.reduceLT, Int.reduceLE, Int.reduceSub, Int.reduceAdd, Int.reduceNeg, Int.reduceEq, Int.reduceToNat, decide_true, decide_false, decide_eq_true_eq, beq_self_eq_true, bne_self_eq_false, List.reduceReplicate, List.length_set, List.length_replicate, List.length_cons, List.length_nil, List.set_cons_zero, List.set_cons_succ, Int.toNat_natCast, go_sem, reduceIte, Nat.reduceAdd, Nat.reduceMul, Nat.reduceSub, Nat.reduceEqDiff, Nat.reduceLeDiff, Nat.reduceLT, reduceCtorEq, Nat.succ_eq_add_one]
    refine ⟨rfl, Fin.mk0 _ rfl rfl ?_⟩
    simp only [retOne, rv, rvL, encM_takeL, encM_len, List.take_length, List.drop_zero, List.map_nil, List.not_mem_nil, not_false_eq_true, true_and, Int.cast_ofNat_Int, Int.reduceBEq, Int.reduceLT, Int.reduceLE, Int.reduceSub, Int.reduceAdd, Int.reduceNeg, Int.reduceEq, Int.reduceToNat, decide_true, decide_false, decide_eq_true_eq, beq_self_eq_true, bne_self_eq_false, List.reduceReplicate, List.length_set, List.length_replicate, List.length_cons, List.length_nil, List.set_cons_zero, List.set_cons_succ, Int.toNat_natCast, go_sem, reduceIte, Nat.reduceAdd, Nat.reduceMul, Nat.reduceSub, Nat.reduceEqDiff, Nat.reduceLeDiff, Nat.reduceLT, reduceCtorEq, Nat.succ_eq_add_one]
    exact Nat.le_refl _
end Go.Eng
