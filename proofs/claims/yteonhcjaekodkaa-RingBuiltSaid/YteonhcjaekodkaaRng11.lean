/-
  Walks and plain lemmas for RingBuilt: what the functions named below compute, over the abstract states of the engine.
  No condition beyond those that each theorem states.
-/
import Derived.Test.YteonhcjaekodkaaRng9
set_option linter.all false
set_option linter.unusedSimpArgs false
set_option maxRecDepth 20000
set_option maxHeartbeats 4000000
namespace Go.Eng
open Go Go.Proofs

theorem fn81p (ms : List Msg) (h1 : ms.length ≤ 10000) : Fn Try.prog 81 [slM ms] [] (slM ms) [] [] := by
  refine Fn.of_go ok81 (by simp) ?_
  unfold s81
  cases ms with
  | nil =>
    simp only [slM, encM, List.map_nil, Int.cast_ofNat_Int, Int.reduceBEq, Int.reduceLT, Int.reduceLE, Int.reduceSub, Int.reduceAdd, Int.reduceNeg, Int.reduceEq, Int.reduceToNat, decide_true, decide_false, decide_eq_true_eq, beq_self_eq_true, bne_self_eq_false, List.reduceReplicate, List.length_set, List.length_replicate, List.length_cons, List.length_nil, List.set_cons_zero, List.set_cons_succ, Int.toNat_natCast, go_sem, reduceIte, Nat.reduceAdd, Nat.reduceMul, Nat.reduceSub, Nat.reduceEqDiff, Nat.reduceLeDiff, Nat.reduceLT, reduceCtorEq, Nat.succ_eq_add_one]
    refine ⟨?_, ?_⟩
    · exact Fin.mk0 _ rfl rfl (by simp only [retOne, rv])
    · try simp only [List.take_zero, List.drop_zero, List.nil_append, List.length_nil, Int.cast_ofNat_Int, Int.reduceBEq, Int.reduceLT, Int.reduceLE, Int.reduceSub, Int.reduceAdd, Int.reduceNeg, Int.reduceEq, Int.reduceToNat, decide_true, decide_false, decide_eq_true_eq, beq_self_eq_true, bne_self_eq_false, List.reduceReplicate, List.length_set, List.length_replicate, List.length_cons, List.length_nil, List.set_cons_zero, List.set_cons_succ, Int.toNat_natCast, go_sem, reduceIte, Nat.reduceAdd, Nat.reduceMul, Nat.reduceSub, Nat.reduceEqDiff, Nat.reduceLeDiff, Nat.reduceLT, reduceCtorEq, Nat.succ_eq_add_one]
      refine ⟨Nat.zero_le _, Fin.mk0 _ rfl rfl ?_⟩
      simp only [retOne, rv, get, List.map_nil, List.not_mem_nil, not_false_eq_true, true_and, Int.cast_ofNat_Int, Int.reduceBEq, Int.reduceLT, Int.reduceLE, Int.reduceSub, Int.reduceAdd, Int.reduceNeg, Int.reduceEq, Int.reduceToNat, decide_true, decide_false, decide_eq_true_eq, beq_self_eq_true, bne_self_eq_false, List.reduceReplicate, List.length_set, List.length_replicate, List.length_cons, List.length_nil, List.set_cons_zero, List.set_cons_succ, Int.toNat_natCast, go_sem, reduceIte, Nat.reduceAdd, Nat.reduceMul, Nat.reduceSub, Nat.reduceEqDiff, Nat.reduceLeDiff, Nat.reduceLT, reduceCtorEq, Nat.succ_eq_add_one]
      try simp
  | cons m l =>
    have e1 : encM (m :: l) = m.enc :: encM l := rfl
    have hm : l.length + 1 ≤ maxLen := Nat.le_trans (show _ ≤ 10000 by simpa using h1) (by decide)
    simp only [List.length_cons] at h1
    simp only [slM, e1, encM_len, List.take_zero, List.drop_zero, List.nil_append, List.length_nil, Int.cast_ofNat_Int, Int.reduceBEq, Int.reduceLT, Int.reduceLE, Int.reduceSub, Int.reduceAdd, Int.reduceNeg, Int.reduceEq, Int.reduceToNat, decide_true, decide_false, decide_eq_true_eq, beq_self_eq_true, bne_self_eq_false, List.reduceReplicate, List.length_set, List.length_replicate, List.length_cons, List.length_nil, List.set_cons_zero, List.set_cons_succ, Int.toNat_natCast, go_sem, reduceIte, Nat.reduceAdd, Nat.reduceMul, Nat.reduceSub, Nat.reduceEqDiff, Nat.reduceLeDiff, Nat.reduceLT, reduceCtorEq, Nat.succ_eq_add_one]
    refine ⟨⟨by omega, hm⟩, Fin.mk0 _ rfl rfl ?_⟩
    have e2 : (m.enc :: encM l).take (l.length + 1) = m.enc :: encM l := by rw [List.take_of_length_le (by simp [encM_len])]
    simp only [retOne, rv, get, e2, encM_len, List.drop_zero, List.length_cons, List.map_nil, List.not_mem_nil, not_false_eq_true, true_and, Int.cast_ofNat_Int, Int.reduceBEq, Int.reduceLT, Int.reduceLE, Int.reduceSub, Int.reduceAdd, Int.reduceNeg, Int.reduceEq, Int.reduceToNat, decide_true, decide_false, decide_eq_true_eq, beq_self_eq_true, bne_self_eq_false, List.reduceReplicate, List.length_set, List.length_replicate, List.length_cons, List.length_nil, List.set_cons_zero, List.set_cons_succ, Int.toNat_natCast, go_sem, reduceIte, Nat.reduceAdd, Nat.reduceMul, Nat.reduceSub, Nat.reduceEqDiff, Nat.reduceLeDiff, Nat.reduceLT, reduceCtorEq, Nat.succ_eq_add_one]
    try simp

theorem invL_take {l : List Msg} (h : invL l = 0) (k : Nat) : invL (l.take k) = 0 := by
  induction l generalizing k with
  | nil => simp [invL]
  | cons m l ih =>
    cases k with
    | zero => rfl
    | succ k =>
      simp only [List.take_succ_cons, invL] at h ⊢
      by_cases hm : m.val ≠ 0
      · rw [if_pos hm] at h; exact absurd h hm
      · rw [if_neg hm] at h ⊢; exact ih h k
theorem sndV_zero {l : List Msg} (h : sndV l = 0) : invL l = 0 ∧ dup l = false := by
  unfold sndV at h
  by_cases h1 : invL l = 0
  · rw [if_neg (fun hx => hx h1)] at h
    refine ⟨h1, ?_⟩
    cases hd : dup l with
    | true => rw [hd] at h; simp at h
    | false => rfl
  · rw [if_pos h1] at h; exact absurd h h1
theorem sndV_of {l : List Msg} (h1 : invL l = 0) (h2 : dup l = false) : sndV l = 0 := by
  unfold sndV
  rw [if_neg (fun hx => hx h1), h2]; rfl
theorem nd_of {l : List Msg} (h : dup l = false) : (ids l).Nodup := by simpa [dup] using h
theorem Rg.take {n h : Nat} {l : List Msg} (rg : Rg n h l) (k : Nat) : Rg n h (l.take k) := by
  obtain ⟨h1, h2⟩ := sndV_zero rg.snd
  refine ⟨rg.n1, rg.n2, rg.hh, by have := rg.ll; simp only [List.length_take]; omega, sndV_of (invL_take h1 k) ?_⟩
  have e : ids (l.take k) = (ids l).take k := by simp [ids, List.map_take]
  simp only [dup, e, Bool.not_eq_false', decide_eq_true_eq]
  exact (nd_of h2).sublist (List.take_sublist _ _)
theorem invL_app {l ms : List Msg} (h : invL l = 0) : invL (l ++ ms) = invL ms := by
  induction l with
  | nil => rfl
  | cons m l ih =>
    simp only [List.cons_append, invL] at h ⊢
    by_cases hm : m.val ≠ 0
    · rw [if_pos hm] at h; exact absurd h hm
    · rw [if_neg hm] at h ⊢; exact ih h
theorem Rg.push {n h : Nat} {l : List Msg} {m : Msg} (rg : Rg n h l) (e : roomE (rcs n h l) h l.length m = 0) : Rg n h (l ++ [m]) := by
  obtain ⟨_, h2, h3, h4⟩ := roomE_zero e
  obtain ⟨i1, i2⟩ := sndV_zero rg.snd
  rw [rcs_len] at h2
  rw [Int.toNat_natCast, Int.toNat_natCast, ordL_rcs rg.ll rg.hh] at h4
  have hni : m.id ∉ ids l := fun hx => h4 (by unfold idxV; rw [if_pos hx]; omega)
  refine ⟨rg.n1, rg.n2, rg.hh, by have := rg.ll; simp; omega, sndV_of ?_ ?_⟩
  · rw [invL_app i1]; simp [invL, h3]
  · have : (ids (l ++ [m])).Nodup := by
      simp only [ids, List.map_append, List.map_cons, List.map_nil, List.nodup_append]
      refine ⟨nd_of i2, by simp, fun a ha b hb => ?_⟩
      simp only [List.mem_singleton] at hb
      subst hb
      intro e; subst e; exact hni ha
    simp [dup, this]

def detA (cs : List Msg) (h s k : Int) : AV :=
  if ringV cs h s ≠ 0 then .tup [ringA [] 0 0, slM [], I (ringV cs h s)] else if k < 0 then .tup [ringA [] 0 0, slM [], I 1] else if s < k then .tup [ringA [] 0 0, slM [], I 1]
  else .tup [ringC cs.length h.toNat ((ordL cs h.toNat s.toNat).take (s.toNat - k.toNat)), slM ((ordL cs h.toNat s.toNat).drop (s.toNat - k.toNat)), I 0]
theorem fn42 (cs : List Msg) (h s k : Int) : Fn Try.prog 42 [ringA cs h s, I k] [] (detA cs h s k) [] [] := by
  refine Fn.of_go ok42 (by simp) ?_
  unfold s42 detA
  simp only [Int.cast_ofNat_Int, Int.reduceBEq, Int.reduceLT, Int.reduceLE, Int.reduceSub, Int.reduceAdd, Int.reduceNeg, Int.reduceEq, Int.reduceToNat, decide_true, decide_false, decide_eq_true_eq, beq_self_eq_true, bne_self_eq_false, List.reduceReplicate, List.length_set, List.length_replicate, List.length_cons, List.length_nil, List.set_cons_zero, List.set_cons_succ, Int.toNat_natCast, go_sem, reduceIte, Nat.reduceAdd, Nat.reduceMul, Nat.reduceSub, Nat.reduceEqDiff, Nat.reduceLeDiff, Nat.reduceLT, reduceCtorEq, Nat.succ_eq_add_one]
  refine goCall0 (fn62 cs h s) rfl rfl ?_
  simp only [Int.cast_ofNat_Int, Int.reduceBEq, Int.reduceLT, Int.reduceLE, Int.reduceSub, Int.reduceAdd, Int.reduceNeg, Int.reduceEq, Int.reduceToNat, decide_true, decide_false, decide_eq_true_eq, beq_self_eq_true, bne_self_eq_false, List.reduceReplicate, List.length_set, List.length_replicate, List.length_cons, List.length_nil, List.set_cons_zero, List.set_cons_succ, Int.toNat_natCast, go_sem, reduceIte, Nat.reduceAdd, Nat.reduceMul, Nat.reduceSub, Nat.reduceEqDiff, Nat.reduceLeDiff, Nat.reduceLT, reduceCtorEq, Nat.succ_eq_add_one]
  refine goIf_split (fun h1 => ?_) (fun h1 => ?_) <;> simp only [h1, go_sem, reduceIte, Nat.reduceAdd, Nat.reduceMul, Nat.reduceSub, Nat.reduceEqDiff, Nat.reduceLeDiff, Nat.reduceLT, reduceCtorEq, Nat.succ_eq_add_one]
  · have e : ringV cs h s ≠ 0 := by simpa using h1
    rw [if_pos e]
    exact Fin.mk0 _ rfl rfl (by simp only [retOne, rv, rvL, encM, List.map_nil, go_sem, reduceIte, Nat.reduceAdd, Nat.reduceMul, Nat.reduceSub, Nat.reduceEqDiff, Nat.reduceLeDiff, Nat.reduceLT, reduceCtorEq, Nat.succ_eq_add_one])
  have e : ringV cs h s = 0 := by simpa using h1
  rw [if_neg (show ¬ ringV cs h s ≠ 0 from fun h => h e)]
  by_cases h2 : k < 0
  · rw [if_pos h2]
    simp only [h2, decide_true, go_sem, reduceIte, Nat.reduceAdd, Nat.reduceMul, Nat.reduceSub, Nat.reduceEqDiff, Nat.reduceLeDiff, Nat.reduceLT, reduceCtorEq, Nat.succ_eq_add_one]
    exact Fin.mk0 _ rfl rfl (by simp only [retOne, rv, rvL, encM, List.map_nil, go_sem, reduceIte, Nat.reduceAdd, Nat.reduceMul, Nat.reduceSub, Nat.reduceEqDiff, Nat.reduceLeDiff, Nat.reduceLT, reduceCtorEq, Nat.succ_eq_add_one])
  by_cases h3 : s < k
  · rw [if_neg h2, if_pos h3]
    simp only [h2, h3, decide_true, decide_false, go_sem, reduceIte, Nat.reduceAdd, Nat.reduceMul, Nat.reduceSub, Nat.reduceEqDiff, Nat.reduceLeDiff, Nat.reduceLT, reduceCtorEq, Nat.succ_eq_add_one]
    exact Fin.mk0 _ rfl rfl (by simp only [retOne, rv, rvL, encM, List.map_nil, go_sem, reduceIte, Nat.reduceAdd, Nat.reduceMul, Nat.reduceSub, Nat.reduceEqDiff, Nat.reduceLeDiff, Nat.reduceLT, reduceCtorEq, Nat.succ_eq_add_one])
  rw [if_neg h2, if_neg h3]
  obtain ⟨n, h', l, rg, rfl, rfl, rfl⟩ := ringV_zero' e
  have := rg.n1; have := rg.n2; have := rg.hh; have := rg.ll
  obtain ⟨k, rfl⟩ : ∃ k' : Nat, k = k' := ⟨k.toNat, by omega⟩
  have hF := fn63 (rcs n h' l) h' l.length (by omega) (by omega) (by rw [rcs_len]; omega)
  have e3 : IntKind.i64.wrap ((l.length : Int) - (k : Int)) = ((l.length - k : Nat) : Int) := by rw [w64 (by omega)]; omega
  simp only [Int.toNat_natCast, ordL_rcs rg.ll rg.hh, h2, h3, decide_false, e3, Int.cast_ofNat_Int, Int.reduceBEq, Int.reduceLT, Int.reduceLE, Int.reduceSub, Int.reduceAdd, Int.reduceNeg, Int.reduceEq, Int.reduceToNat, decide_true, decide_false, decide_eq_true_eq, beq_self_eq_true, bne_self_eq_false, List.reduceReplicate, List.length_set, List.length_replicate, List.length_cons, List.length_nil, List.set_cons_zero, List.set_cons_succ, Int.toNat_natCast, go_sem, reduceIte, Nat.reduceAdd, Nat.reduceMul, Nat.reduceSub, Nat.reduceEqDiff, Nat.reduceLeDiff, Nat.reduceLT, reduceCtorEq, Nat.succ_eq_add_one] at hF ⊢
  refine goCallD0 hF rfl rfl ?_
  simp only [e3, Int.toNat_natCast, encM_takeL, encM_drop, Int.cast_ofNat_Int, Int.reduceBEq, Int.reduceLT, Int.reduceLE, Int.reduceSub, Int.reduceAdd, Int.reduceNeg, Int.reduceEq, Int.reduceToNat, decide_true, decide_false, decide_eq_true_eq, beq_self_eq_true, bne_self_eq_false, List.reduceReplicate, List.length_set, List.length_replicate, List.length_cons, List.length_nil, List.set_cons_zero, List.set_cons_succ, Int.toNat_natCast, go_sem, reduceIte, Nat.reduceAdd, Nat.reduceMul, Nat.reduceSub, Nat.reduceEqDiff, Nat.reduceLeDiff, Nat.reduceLT, reduceCtorEq, Nat.succ_eq_add_one]
  refine ⟨⟨by omega, by omega, by omega⟩, rfl, ?_⟩
  have ht : ∀ j, j ≤ k → (l.take (l.length - j)).length = l.length - j := fun j hj => by simp only [List.length_take]; omega
  refine go_loop (fun j : {j : Nat // j ≤ k} => ⟨2000, [(2, .ptr 8 0), (4, .ptr 16 0), (8, slM (l.drop (l.length - k))), (31, I k), (32, I j.1)], [(8, .box [slM (rcs n h' (l.take (l.length - j.1))), I h', I (l.length - j.1 : Nat)]), (16, .box [Nl, Z', Z'])]⟩) (fun j => k - j.1) ⟨0, by omega⟩
    (Wk.mk [(8, 8), (16, 16)] [] rfl rfl (by simp only [rvH, rvO, rvL, rv, Nat.sub_zero, List.take_length, go_sem, reduceIte, Nat.reduceAdd, Nat.reduceMul, Nat.reduceSub, Nat.reduceEqDiff, Nat.reduceLeDiff, Nat.reduceLT, reduceCtorEq, Nat.succ_eq_add_one]) (by simp only [go_sem, reduceIte, Nat.reduceAdd, Nat.reduceMul, Nat.reduceSub, Nat.reduceEqDiff, Nat.reduceLeDiff, Nat.reduceLT, reduceCtorEq, Nat.succ_eq_add_one]) (by simp only [rv, Int.cast_ofNat_Int, Int.reduceBEq, Int.reduceLT, Int.reduceLE, Int.reduceSub, Int.reduceAdd, Int.reduceNeg, Int.reduceEq, Int.reduceToNat, decide_true, decide_false, decide_eq_true_eq, beq_self_eq_true, bne_self_eq_false, List.reduceReplicate, List.length_set, List.length_replicate, List.length_cons, List.length_nil, List.set_cons_zero, List.set_cons_succ, Int.toNat_natCast, go_sem, reduceIte, Nat.reduceAdd, Nat.reduceMul, Nat.reduceSub, Nat.reduceEqDiff, Nat.reduceLeDiff, Nat.reduceLT, reduceCtorEq, Nat.succ_eq_add_one]; try simp)) ?_
  intro j B hB
  have hj := j.2
  simp only [go_sem, reduceIte, Nat.reduceAdd, Nat.reduceMul, Nat.reduceSub, Nat.reduceEqDiff, Nat.reduceLeDiff, Nat.reduceLT, reduceCtorEq, Nat.succ_eq_add_one]
  refine goIf_split (fun h4 => ?_) (fun h4 => ?_) <;> simp only [h4, go_sem, reduceIte, Nat.reduceAdd, Nat.reduceMul, Nat.reduceSub, Nat.reduceEqDiff, Nat.reduceLeDiff, Nat.reduceLT, reduceCtorEq, Nat.succ_eq_add_one]
  · have e1 : j.1 < k := by simp only [decide_eq_true_eq] at h4; omega
    have e4 : IntKind.i64.wrap (((l.length - j.1 : Nat) : Int) - 1) = ((l.length - (j.1 + 1) : Nat) : Int) := by rw [w64 (by omega)]; omega
    have hF := fn65 n h' (l.length - (j.1 + 1)) (l.take (l.length - j.1)) (rg.take _) (by rw [ht j.1 (by omega)]; omega)
    have e5 : (l.take (l.length - j.1)).eraseIdx (l.length - (j.1 + 1)) = l.take (l.length - (j.1 + 1)) := by
      rw [List.eraseIdx_eq_take_drop_succ, List.take_take, Nat.min_eq_left (by omega), List.drop_of_length_le (by rw [ht j.1 (by omega)]; omega), List.append_nil]
    simp only [ringC, e5, ht j.1 (by omega), ht (j.1 + 1) (by omega)] at hF
    simp only [e4, Int.cast_ofNat_Int, Int.reduceBEq, Int.reduceLT, Int.reduceLE, Int.reduceSub, Int.reduceAdd, Int.reduceNeg, Int.reduceEq, Int.reduceToNat, decide_true, decide_false, decide_eq_true_eq, beq_self_eq_true, bne_self_eq_false, List.reduceReplicate, List.length_set, List.length_replicate, List.length_cons, List.length_nil, List.set_cons_zero, List.set_cons_succ, Int.toNat_natCast, go_sem, reduceIte, Nat.reduceAdd, Nat.reduceMul, Nat.reduceSub, Nat.reduceEqDiff, Nat.reduceLeDiff, Nat.reduceLT, reduceCtorEq, Nat.succ_eq_add_one]
    refine goCall0 hF rfl rfl ?_
    simp only [w64_succ (show j.1 ≤ 100000 by omega), Int.cast_ofNat_Int, Int.reduceBEq, Int.reduceLT, Int.reduceLE, Int.reduceSub, Int.reduceAdd, Int.reduceNeg, Int.reduceEq, Int.reduceToNat, decide_true, decide_false, decide_eq_true_eq, beq_self_eq_true, bne_self_eq_false, List.reduceReplicate, List.length_set, List.length_replicate, List.length_cons, List.length_nil, List.set_cons_zero, List.set_cons_succ, Int.toNat_natCast, go_sem, reduceIte, Nat.reduceAdd, Nat.reduceMul, Nat.reduceSub, Nat.reduceEqDiff, Nat.reduceLeDiff, Nat.reduceLT, reduceCtorEq, Nat.succ_eq_add_one]
    exact hB _ ⟨j.1 + 1, e1⟩ (by simp only; omega) (Wk.mk [(8, 8), (16, 16)] [] rfl rfl (by simp only [rvH, rvO, rvL, rv, go_sem, reduceIte, Nat.reduceAdd, Nat.reduceMul, Nat.reduceSub, Nat.reduceEqDiff, Nat.reduceLeDiff, Nat.reduceLT, reduceCtorEq, Nat.succ_eq_add_one]) (by simp only [go_sem, reduceIte, Nat.reduceAdd, Nat.reduceMul, Nat.reduceSub, Nat.reduceEqDiff, Nat.reduceLeDiff, Nat.reduceLT, reduceCtorEq, Nat.succ_eq_add_one]) (by simp only [rv, go_sem, reduceIte, Nat.reduceAdd, Nat.reduceMul, Nat.reduceSub, Nat.reduceEqDiff, Nat.reduceLeDiff, Nat.reduceLT, reduceCtorEq, Nat.succ_eq_add_one]))
  · have e1 : j.1 = k := by simp only [decide_eq_false_iff_not] at h4; omega
    simp only [e1]
    refine goCallE (fn77 (rcs n h' (l.take (l.length - k))) h' (l.length - k : Nat) (by rw [rcs_len]; omega) (by rw [rcs_len]; omega)) rfl rfl (by simp) (by simp [expA, expL]) ?_
    simp only [obsFrom, sh, shL, Int.cast_ofNat_Int, Int.reduceBEq, Int.reduceLT, Int.reduceLE, Int.reduceSub, Int.reduceAdd, Int.reduceNeg, Int.reduceEq, Int.reduceToNat, decide_true, decide_false, decide_eq_true_eq, beq_self_eq_true, bne_self_eq_false, List.reduceReplicate, List.length_set, List.length_replicate, List.length_cons, List.length_nil, List.set_cons_zero, List.set_cons_succ, Int.toNat_natCast, go_sem, reduceIte, Nat.reduceAdd, Nat.reduceMul, Nat.reduceSub, Nat.reduceEqDiff, Nat.reduceLeDiff, Nat.reduceLT, reduceCtorEq, Nat.succ_eq_add_one]
    refine goCall0 (fn81p (l.drop (l.length - k)) (by simp only [List.length_drop]; omega)) rfl rfl ?_
    simp only [Int.cast_ofNat_Int, Int.reduceBEq, Int.reduceLT, Int.reduceLE, Int.reduceSub, Int.reduceAdd, Int.reduceNeg, Int.reduceEq, Int.reduceToNat, decide_true, decide_false, decide_eq_true_eq, beq_self_eq_true, bne_self_eq_false, List.reduceReplicate, List.length_set, List.length_replicate, List.length_cons, List.length_nil, List.set_cons_zero, List.set_cons_succ, Int.toNat_natCast, go_sem, reduceIte, Nat.reduceAdd, Nat.reduceMul, Nat.reduceSub, Nat.reduceEqDiff, Nat.reduceLeDiff, Nat.reduceLT, reduceCtorEq, Nat.succ_eq_add_one]
    refine Fin.mk0 _ rfl rfl ?_
    simp only [retOne, rv, rvL, ht k (Nat.le_refl _), List.drop_zero, List.map_nil, List.not_mem_nil, not_false_eq_true, true_and, Int.cast_ofNat_Int, Int.reduceBEq, Int.reduceLT, Int.reduceLE, Int.reduceSub, Int.reduceAdd, Int.reduceNeg, Int.reduceEq, Int.reduceToNat, decide_true, decide_false, decide_eq_true_eq, beq_self_eq_true, bne_self_eq_false, List.reduceReplicate, List.length_set, List.length_replicate, List.length_cons, List.length_nil, List.set_cons_zero, List.set_cons_succ, Int.toNat_natCast, go_sem, reduceIte, Nat.reduceAdd, Nat.reduceMul, Nat.reduceSub, Nat.reduceEqDiff, Nat.reduceLeDiff, Nat.reduceLT, reduceCtorEq, Nat.succ_eq_add_one]
    try simp

/-- What Absorb comes to. -/
def absF (n h : Nat) : List Msg → List Msg → Int × List Msg
  | l, [] => (0, l)
  | l, m :: ms => if roomE (rcs n h l) h l.length m ≠ 0 then (roomE (rcs n h l) h l.length m, l) else absF n h (l ++ [m]) ms
theorem absF_cons (n h : Nat) (l ms : List Msg) (m : Msg) : absF n h l (m :: ms) = if roomE (rcs n h l) h l.length m ≠ 0 then (roomE (rcs n h l) h l.length m, l) else absF n h (l ++ [m]) ms := rfl
def absA (cs : List Msg) (h s : Int) (ms : List Msg) : AV :=
  if ringV cs h s ≠ 0 then .tup [ringA [] 0 0, I (ringV cs h s)] else if cs.length - s < ms.length then .tup [ringA [] 0 0, I 3]
  else if (absF cs.length h.toNat (ordL cs h.toNat s.toNat) ms).1 ≠ 0 then .tup [ringA [] 0 0, I (absF cs.length h.toNat (ordL cs h.toNat s.toNat) ms).1]
  else .tup [ringC cs.length h.toNat (absF cs.length h.toNat (ordL cs h.toNat s.toNat) ms).2, I 0]
structure AbsP (n h : Nat) (l0 ms : List Msg) where
  j : Nat
  l : List Msg
  hj : j ≤ ms.length
  rg : Rg n h l
  eq : absF n h l0 ms = absF n h l (ms.drop j)
theorem fn43 (cs : List Msg) (h s : Int) (ms : List Msg) (hl : ms.length ≤ 10000) : Fn Try.prog 43 [ringA cs h s, slM ms] [] (absA cs h s ms) [] [] := by
  refine Fn.of_go ok43 (by simp) ?_
  unfold s43 absA
  simp only [Int.cast_ofNat_Int, Int.reduceBEq, Int.reduceLT, Int.reduceLE, Int.reduceSub, Int.reduceAdd, Int.reduceNeg, Int.reduceEq, Int.reduceToNat, decide_true, decide_false, decide_eq_true_eq, beq_self_eq_true, bne_self_eq_false, List.reduceReplicate, List.length_set, List.length_replicate, List.length_cons, List.length_nil, List.set_cons_zero, List.set_cons_succ, Int.toNat_natCast, go_sem, reduceIte, Nat.reduceAdd, Nat.reduceMul, Nat.reduceSub, Nat.reduceEqDiff, Nat.reduceLeDiff, Nat.reduceLT, reduceCtorEq, Nat.succ_eq_add_one]
  refine goCall0 (fn62 cs h s) rfl rfl ?_
  simp only [Int.cast_ofNat_Int, Int.reduceBEq, Int.reduceLT, Int.reduceLE, Int.reduceSub, Int.reduceAdd, Int.reduceNeg, Int.reduceEq, Int.reduceToNat, decide_true, decide_false, decide_eq_true_eq, beq_self_eq_true, bne_self_eq_false, List.reduceReplicate, List.length_set, List.length_replicate, List.length_cons, List.length_nil, List.set_cons_zero, List.set_cons_succ, Int.toNat_natCast, go_sem, reduceIte, Nat.reduceAdd, Nat.reduceMul, Nat.reduceSub, Nat.reduceEqDiff, Nat.reduceLeDiff, Nat.reduceLT, reduceCtorEq, Nat.succ_eq_add_one]
  refine goIf_split (fun h1 => ?_) (fun h1 => ?_) <;> simp only [h1, go_sem, reduceIte, Nat.reduceAdd, Nat.reduceMul, Nat.reduceSub, Nat.reduceEqDiff, Nat.reduceLeDiff, Nat.reduceLT, reduceCtorEq, Nat.succ_eq_add_one]
  · have e : ringV cs h s ≠ 0 := by simpa using h1
    rw [if_pos e]
    exact Fin.mk0 _ rfl rfl (by simp only [retOne, rv, rvL, encM, List.map_nil, go_sem, reduceIte, Nat.reduceAdd, Nat.reduceMul, Nat.reduceSub, Nat.reduceEqDiff, Nat.reduceLeDiff, Nat.reduceLT, reduceCtorEq, Nat.succ_eq_add_one])
  have e : ringV cs h s = 0 := by simpa using h1
  rw [if_neg (show ¬ ringV cs h s ≠ 0 from fun h => h e)]
  obtain ⟨n, h', l, rg, rfl, rfl, rfl⟩ := ringV_zero' e
  have := rg.n1; have := rg.n2; have := rg.hh; have := rg.ll
  have e3 : IntKind.i64.wrap ((n : Int) - (l.length : Int)) = (n : Int) - (l.length : Int) := w64 (by omega)
  simp only [Int.toNat_natCast, ordL_rcs rg.ll rg.hh, e3, rcs_len]
  refine goIf_split (fun h2 => ?_) (fun h2 => ?_) <;> simp only [h2, go_sem, reduceIte, Nat.reduceAdd, Nat.reduceMul, Nat.reduceSub, Nat.reduceEqDiff, Nat.reduceLeDiff, Nat.reduceLT, reduceCtorEq, Nat.succ_eq_add_one]
  · have e2 : (n : Int) - l.length < ms.length := by simpa using h2
    rw [if_pos e2]
    exact Fin.mk0 _ rfl rfl (by simp only [retOne, rv, rvL, encM, List.map_nil, go_sem, reduceIte, Nat.reduceAdd, Nat.reduceMul, Nat.reduceSub, Nat.reduceEqDiff, Nat.reduceLeDiff, Nat.reduceLT, reduceCtorEq, Nat.succ_eq_add_one])
  have e2 : ¬ (n : Int) - l.length < ms.length := by simpa using h2
  rw [if_neg e2]
  refine goCallE (fn77 (rcs n h' l) h' l.length (by rw [rcs_len]; omega) (by rw [rcs_len]; omega)) rfl rfl (by simp) (by simp [expA, expL]) ?_
  simp only [obsFrom, sh, shL, Int.cast_ofNat_Int, Int.reduceBEq, Int.reduceLT, Int.reduceLE, Int.reduceSub, Int.reduceAdd, Int.reduceNeg, Int.reduceEq, Int.reduceToNat, decide_true, decide_false, decide_eq_true_eq, beq_self_eq_true, bne_self_eq_false, List.reduceReplicate, List.length_set, List.length_replicate, List.length_cons, List.length_nil, List.set_cons_zero, List.set_cons_succ, Int.toNat_natCast, go_sem, reduceIte, Nat.reduceAdd, Nat.reduceMul, Nat.reduceSub, Nat.reduceEqDiff, Nat.reduceLeDiff, Nat.reduceLT, reduceCtorEq, Nat.succ_eq_add_one]
  refine go_loop (fun q : AbsP n h' l ms => ⟨2000, [(2, .ptr 8 0), (4, .ptr 16 0), (28, slM ms), (29, I ms.length), (30, I q.j)], [(8, .box [slM (rcs n h' q.l), I h', I q.l.length]), (16, .box [Nl, Z', Z'])]⟩) (fun q => ms.length - q.j) ⟨0, l, by omega, rg, by rw [List.drop_zero]⟩
    (Wk.mk [(8, 8), (16, 16)] [] rfl rfl (by simp only [rvH, rvO, rvL, rv, List.drop_zero, go_sem, reduceIte, Nat.reduceAdd, Nat.reduceMul, Nat.reduceSub, Nat.reduceEqDiff, Nat.reduceLeDiff, Nat.reduceLT, reduceCtorEq, Nat.succ_eq_add_one]; simp) (by simp only [go_sem, reduceIte, Nat.reduceAdd, Nat.reduceMul, Nat.reduceSub, Nat.reduceEqDiff, Nat.reduceLeDiff, Nat.reduceLT, reduceCtorEq, Nat.succ_eq_add_one]) (by simp only [rv, Int.cast_ofNat_Int, Int.reduceBEq, Int.reduceLT, Int.reduceLE, Int.reduceSub, Int.reduceAdd, Int.reduceNeg, Int.reduceEq, Int.reduceToNat, decide_true, decide_false, decide_eq_true_eq, beq_self_eq_true, bne_self_eq_false, List.reduceReplicate, List.length_set, List.length_replicate, List.length_cons, List.length_nil, List.set_cons_zero, List.set_cons_succ, Int.toNat_natCast, go_sem, reduceIte, Nat.reduceAdd, Nat.reduceMul, Nat.reduceSub, Nat.reduceEqDiff, Nat.reduceLeDiff, Nat.reduceLT, reduceCtorEq, Nat.succ_eq_add_one]; try simp)) ?_
  intro q B hB
  have hj := q.hj
  have hrg := q.rg
  simp only [go_sem, reduceIte, Nat.reduceAdd, Nat.reduceMul, Nat.reduceSub, Nat.reduceEqDiff, Nat.reduceLeDiff, Nat.reduceLT, reduceCtorEq, Nat.succ_eq_add_one]
  refine goIf_split (fun h4 => ?_) (fun h4 => ?_) <;> simp only [h4, go_sem, reduceIte, Nat.reduceAdd, Nat.reduceMul, Nat.reduceSub, Nat.reduceEqDiff, Nat.reduceLeDiff, Nat.reduceLT, reduceCtorEq, Nat.succ_eq_add_one]
  · have e1 : q.j < ms.length := by simp only [decide_eq_true_eq] at h4; omega
    have hd : ms.drop q.j = ms[q.j] :: ms.drop (q.j + 1) := List.drop_eq_getElem_cons e1
    simp only [Int.toNat_natCast, encM_nth e1, Int.cast_ofNat_Int, Int.reduceBEq, Int.reduceLT, Int.reduceLE, Int.reduceSub, Int.reduceAdd, Int.reduceNeg, Int.reduceEq, Int.reduceToNat, decide_true, decide_false, decide_eq_true_eq, beq_self_eq_true, bne_self_eq_false, List.reduceReplicate, List.length_set, List.length_replicate, List.length_cons, List.length_nil, List.set_cons_zero, List.set_cons_succ, Int.toNat_natCast, go_sem, reduceIte, Nat.reduceAdd, Nat.reduceMul, Nat.reduceSub, Nat.reduceEqDiff, Nat.reduceLeDiff, Nat.reduceLT, reduceCtorEq, Nat.succ_eq_add_one]
    refine ⟨⟨by omega, by omega⟩, ?_⟩
    have hF := fn36 (rcs n h' q.l) h' q.l.length ms[q.j]
    unfold pushBA at hF
    have heq := q.eq
    rw [hd, absF_cons] at heq
    by_cases h5 : roomE (rcs n h' q.l) h' q.l.length ms[q.j] ≠ 0
    · rw [if_pos h5] at hF heq
      refine goCall0 hF rfl rfl ?_
      have h6 : (roomE (rcs n h' q.l) h' q.l.length ms[q.j] != 0) = true := by simpa using h5
      simp only [h6, Int.cast_ofNat_Int, Int.reduceBEq, Int.reduceLT, Int.reduceLE, Int.reduceSub, Int.reduceAdd, Int.reduceNeg, Int.reduceEq, Int.reduceToNat, decide_true, decide_false, decide_eq_true_eq, beq_self_eq_true, bne_self_eq_false, List.reduceReplicate, List.length_set, List.length_replicate, List.length_cons, List.length_nil, List.set_cons_zero, List.set_cons_succ, Int.toNat_natCast, go_sem, reduceIte, Nat.reduceAdd, Nat.reduceMul, Nat.reduceSub, Nat.reduceEqDiff, Nat.reduceLeDiff, Nat.reduceLT, reduceCtorEq, Nat.succ_eq_add_one]
      rw [show absF n h' l ms = _ from heq]
      simp only
      rw [if_pos h5]
      exact Fin.mk0 _ rfl rfl (by simp only [retOne, rv, rvL, encM, List.map_nil, go_sem, reduceIte, Nat.reduceAdd, Nat.reduceMul, Nat.reduceSub, Nat.reduceEqDiff, Nat.reduceLeDiff, Nat.reduceLT, reduceCtorEq, Nat.succ_eq_add_one])
    · have h5' : roomE (rcs n h' q.l) h' q.l.length ms[q.j] = 0 := by simpa using h5
      rw [if_neg h5] at hF heq
      simp only [Int.toNat_natCast, ordL_rcs hrg.ll hrg.hh, rcs_len] at hF
      refine goCall0 hF rfl rfl ?_
      simp only [w64_succ (show q.j ≤ 100000 by omega), Int.cast_ofNat_Int, Int.reduceBEq, Int.reduceLT, Int.reduceLE, Int.reduceSub, Int.reduceAdd, Int.reduceNeg, Int.reduceEq, Int.reduceToNat, decide_true, decide_false, decide_eq_true_eq, beq_self_eq_true, bne_self_eq_false, List.reduceReplicate, List.length_set, List.length_replicate, List.length_cons, List.length_nil, List.set_cons_zero, List.set_cons_succ, Int.toNat_natCast, go_sem, reduceIte, Nat.reduceAdd, Nat.reduceMul, Nat.reduceSub, Nat.reduceEqDiff, Nat.reduceLeDiff, Nat.reduceLT, reduceCtorEq, Nat.succ_eq_add_one]
      exact hB _ ⟨q.j + 1, q.l ++ [ms[q.j]], e1, hrg.push h5', heq⟩ (by simp only; omega) (Wk.mk [(8, 8), (16, 16)] [] rfl rfl (by simp only [rvH, rvO, rvL, rv, go_sem, reduceIte, Nat.reduceAdd, Nat.reduceMul, Nat.reduceSub, Nat.reduceEqDiff, Nat.reduceLeDiff, Nat.reduceLT, reduceCtorEq, Nat.succ_eq_add_one]) (by simp only [go_sem, reduceIte, Nat.reduceAdd, Nat.reduceMul, Nat.reduceSub, Nat.reduceEqDiff, Nat.reduceLeDiff, Nat.reduceLT, reduceCtorEq, Nat.succ_eq_add_one]) (by simp only [rv, go_sem, reduceIte, Nat.reduceAdd, Nat.reduceMul, Nat.reduceSub, Nat.reduceEqDiff, Nat.reduceLeDiff, Nat.reduceLT, reduceCtorEq, Nat.succ_eq_add_one]))
  · have e1 : q.j = ms.length := by simp only [decide_eq_false_iff_not] at h4; omega
    have heq := q.eq
    rw [e1, List.drop_length] at heq
    have heq' : absF n h' l ms = (0, q.l) := heq
    rw [heq']
    simp only [ne_eq, not_true_eq_false, if_false]
    exact Fin.mk0 _ rfl rfl (by simp only [retOne, rv, rvL, Int.cast_ofNat_Int, Int.reduceBEq, Int.reduceLT, Int.reduceLE, Int.reduceSub, Int.reduceAdd, Int.reduceNeg, Int.reduceEq, Int.reduceToNat, decide_true, decide_false, decide_eq_true_eq, beq_self_eq_true, bne_self_eq_false, List.reduceReplicate, List.length_set, List.length_replicate, List.length_cons, List.length_nil, List.set_cons_zero, List.set_cons_succ, Int.toNat_natCast, go_sem, reduceIte, Nat.reduceAdd, Nat.reduceMul, Nat.reduceSub, Nat.reduceEqDiff, Nat.reduceLeDiff, Nat.reduceLT, reduceCtorEq, Nat.succ_eq_add_one])

theorem fn44 (n h : Nat) (l : List Msg) (hn : n ≤ 1000) : Fn Try.prog 44 [ringC n h l, ringC n h l] [] (Bo true) [] [] := by
  refine Fn.of_go ok44 (by simp) ?_
  unfold s44
  simp only [Int.cast_ofNat_Int, Int.reduceBEq, Int.reduceLT, Int.reduceLE, Int.reduceSub, Int.reduceAdd, Int.reduceNeg, Int.reduceEq, Int.reduceToNat, decide_true, decide_false, decide_eq_true_eq, beq_self_eq_true, bne_self_eq_false, List.reduceReplicate, List.length_set, List.length_replicate, List.length_cons, List.length_nil, List.set_cons_zero, List.set_cons_succ, Int.toNat_natCast, go_sem, reduceIte, Nat.reduceAdd, Nat.reduceMul, Nat.reduceSub, Nat.reduceEqDiff, Nat.reduceLeDiff, Nat.reduceLT, reduceCtorEq, Nat.succ_eq_add_one]
  refine goCall0 (fn23 (rcs n h l) (by rw [rcs_len]; omega)) rfl rfl ?_
  simp only [Int.cast_ofNat_Int, Int.reduceBEq, Int.reduceLT, Int.reduceLE, Int.reduceSub, Int.reduceAdd, Int.reduceNeg, Int.reduceEq, Int.reduceToNat, decide_true, decide_false, decide_eq_true_eq, beq_self_eq_true, bne_self_eq_false, List.reduceReplicate, List.length_set, List.length_replicate, List.length_cons, List.length_nil, List.set_cons_zero, List.set_cons_succ, Int.toNat_natCast, go_sem, reduceIte, Nat.reduceAdd, Nat.reduceMul, Nat.reduceSub, Nat.reduceEqDiff, Nat.reduceLeDiff, Nat.reduceLT, reduceCtorEq, Nat.succ_eq_add_one]
  exact Fin.eq0 _ rfl rfl rfl rfl
end Go.Eng
