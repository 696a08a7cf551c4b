/-
  Walks and plain lemmas for RingBuilt: what the functions named below compute, over the abstract states of the engine.
  No condition beyond those that each theorem states.
-/
import Derived.Test.YteonhcjaekodkaaRng11
set_option linter.all false
set_option linter.unusedSimpArgs false
set_option maxRecDepth 20000
set_option maxHeartbeats 4000000
namespace Go.Eng
open Go Go.Proofs

theorem detA_ok {n h k : Nat} {l : List Msg} (rg : Rg n h l) (hk : k ≤ l.length) : detA (rcs n h l) h l.length k = .tup [ringC n h (l.take (l.length - k)), slM (l.drop (l.length - k)), I 0] := by
  unfold detA
  rw [if_neg (fun h => h rg.ok), if_neg (by omega), if_neg (by omega)]
  simp only [Int.toNat_natCast, ordL_rcs rg.ll rg.hh, rcs_len]
theorem absF_ok {n h : Nat} : ∀ (b a : List Msg), Rg n h (a ++ b) → absF n h a b = (0, a ++ b)
  | [], a, _ => by simp [absF]
  | m :: b, a, rg => by
    have r1 : Rg n h a := by have := rg.take a.length; rwa [List.take_left] at this
    obtain ⟨i1, i2⟩ := sndV_zero r1.snd
    obtain ⟨i3, i4⟩ := sndV_zero rg.snd
    have hl := rg.ll
    simp only [List.length_append, List.length_cons] at hl
    rw [invL_app i1] at i3
    have hv : m.val = 0 := by
      simp only [invL] at i3
      by_cases hm : m.val ≠ 0
      · rw [if_pos hm] at i3; exact absurd i3 hm
      · simpa using hm
    have hni : m.id ∉ ids a := by
      have h1 := nd_of i4
      simp only [ids, List.map_append, List.map_cons, List.nodup_append] at h1
      intro hx
      exact h1.2.2 _ hx m.id (by simp) rfl
    have hr := roomE_ok r1 hv (by omega) hni
    rw [absF_cons, if_neg (fun h => h hr), absF_ok b (a ++ [m]) (by simpa using rg)]
    simp
theorem absA_ok {n h : Nat} {a b : List Msg} (rg : Rg n h (a ++ b)) : absA (rcs n h a) h a.length b = .tup [ringC n h (a ++ b), I 0] := by
  have r1 : Rg n h a := by have := rg.take a.length; rwa [List.take_left] at this
  have hl := rg.ll
  simp only [List.length_append] at hl
  unfold absA
  rw [if_neg (fun h => h r1.ok)]
  simp only [Int.toNat_natCast, ordL_rcs r1.ll r1.hh, rcs_len, absF_ok b a rg]
  rw [if_neg (by omega)]
  simp

theorem fn8 (l : List Int) : Fn Try.prog 8 [.sl 1 (encI l)] [] (Bo true) [] [] := by
  refine Fn.of_go ok8 (by simp) ?_
  unfold s8
  simp only [Int.cast_ofNat_Int, Int.reduceBEq, Int.reduceLT, Int.reduceLE, Int.reduceSub, Int.reduceAdd, Int.reduceNeg, Int.reduceEq, Int.reduceToNat, decide_true, decide_false, decide_eq_true_eq, beq_self_eq_true, bne_self_eq_false, List.reduceReplicate, List.length_set, List.length_replicate, List.length_cons, List.length_nil, List.set_cons_zero, List.set_cons_succ, Int.toNat_natCast, go_sem, reduceIte, Nat.reduceAdd, Nat.reduceMul, Nat.reduceSub, Nat.reduceEqDiff, Nat.reduceLeDiff, Nat.reduceLT, reduceCtorEq, Nat.succ_eq_add_one]
  refine goCallE (fn19 l) rfl rfl (by simp) rfl ?_
  have hl : (l.take 4000).length ≤ 4000 := by simp only [List.length_take]; omega
  simp only [obsFrom, sh, Int.cast_ofNat_Int, Int.reduceBEq, Int.reduceLT, Int.reduceLE, Int.reduceSub, Int.reduceAdd, Int.reduceNeg, Int.reduceEq, Int.reduceToNat, decide_true, decide_false, decide_eq_true_eq, beq_self_eq_true, bne_self_eq_false, List.reduceReplicate, List.length_set, List.length_replicate, List.length_cons, List.length_nil, List.set_cons_zero, List.set_cons_succ, Int.toNat_natCast, go_sem, reduceIte, Nat.reduceAdd, Nat.reduceMul, Nat.reduceSub, Nat.reduceEqDiff, Nat.reduceLeDiff, Nat.reduceLT, reduceCtorEq, Nat.succ_eq_add_one]
  generalize l.take 4000 = L at hl ⊢
  refine goCall1 (b := 24) (fn20 L 0 12 1 0 65535 hl (by omega) (by omega) (by omega) (by omega) (by omega) (by omega)) ⟨rfl, ⟨rfl, rfl⟩, ⟨rfl, rfl⟩, ⟨rfl, rfl⟩, ⟨rfl, rfl⟩, trivial⟩ rfl rfl rfl rfl ?_
  obtain ⟨j0, hq, rg, hj0⟩ := rgE_ok L 0 12 1 0 65535 (by omega) (by omega) (by omega) (by omega) (by omega) (by omega)
  generalize rgE L 0 12 1 0 65535 = E at hq rg ⊢
  obtain ⟨n, q⟩ := E
  simp only at hq rg ⊢
  simp only [Int.cast_ofNat_Int, Int.reduceBEq, Int.reduceLT, Int.reduceLE, Int.reduceSub, Int.reduceAdd, Int.reduceNeg, Int.reduceEq, Int.reduceToNat, decide_true, decide_false, decide_eq_true_eq, beq_self_eq_true, bne_self_eq_false, List.reduceReplicate, List.length_set, List.length_replicate, List.length_cons, List.length_nil, List.set_cons_zero, List.set_cons_succ, Int.toNat_natCast, go_sem, reduceIte, Nat.reduceAdd, Nat.reduceMul, Nat.reduceSub, Nat.reduceEqDiff, Nat.reduceLeDiff, Nat.reduceLT, reduceCtorEq, Nat.succ_eq_add_one]
  have hG := fn21 (rcs n q.h q.l) q.h q.l.length
  rw [listA_ok rg] at hG
  refine goCall0 hG rfl rfl ?_
  have hn2 := rg.n2
  have hln : q.l.length ≤ 12 := by have := rg.ll; omega
  simp only [bneI, Int.cast_ofNat_Int, Int.reduceBEq, Int.reduceLT, Int.reduceLE, Int.reduceSub, Int.reduceAdd, Int.reduceNeg, Int.reduceEq, Int.reduceToNat, decide_true, decide_false, decide_eq_true_eq, beq_self_eq_true, bne_self_eq_false, List.reduceReplicate, List.length_set, List.length_replicate, List.length_cons, List.length_nil, List.set_cons_zero, List.set_cons_succ, Int.toNat_natCast, go_sem, reduceIte, Nat.reduceAdd, Nat.reduceMul, Nat.reduceSub, Nat.reduceEqDiff, Nat.reduceLeDiff, Nat.reduceLT, reduceCtorEq, Nat.succ_eq_add_one]
  refine go_loop (fun j : {j : Nat // j ≤ q.l.length + 1} => ⟨2000, [(4, .ptr 56 0), (5, slM q.l), (6, I j.1)], [(56, .box [slM (rcs n q.h q.l), I q.h, I q.l.length])]⟩) (fun j => q.l.length + 1 - j.1) ⟨0, by omega⟩
    (Wk.mk [(56, 56)] [] rfl rfl (by simp only [rvH, rvO, rvL, rv, go_sem, reduceIte, Nat.reduceAdd, Nat.reduceMul, Nat.reduceSub, Nat.reduceEqDiff, Nat.reduceLeDiff, Nat.reduceLT, reduceCtorEq, Nat.succ_eq_add_one]) (by simp only [go_sem, reduceIte, Nat.reduceAdd, Nat.reduceMul, Nat.reduceSub, Nat.reduceEqDiff, Nat.reduceLeDiff, Nat.reduceLT, reduceCtorEq, Nat.succ_eq_add_one]) (by simp only [rv, Int.cast_ofNat_Int, Int.reduceBEq, Int.reduceLT, Int.reduceLE, Int.reduceSub, Int.reduceAdd, Int.reduceNeg, Int.reduceEq, Int.reduceToNat, decide_true, decide_false, decide_eq_true_eq, beq_self_eq_true, bne_self_eq_false, List.reduceReplicate, List.length_set, List.length_replicate, List.length_cons, List.length_nil, List.set_cons_zero, List.set_cons_succ, Int.toNat_natCast, go_sem, reduceIte, Nat.reduceAdd, Nat.reduceMul, Nat.reduceSub, Nat.reduceEqDiff, Nat.reduceLeDiff, Nat.reduceLT, reduceCtorEq, Nat.succ_eq_add_one]; try simp)) ?_
  intro j B hB
  simp only [go_sem, reduceIte, Nat.reduceAdd, Nat.reduceMul, Nat.reduceSub, Nat.reduceEqDiff, Nat.reduceLeDiff, Nat.reduceLT, reduceCtorEq, Nat.succ_eq_add_one]
  refine goIf_split (fun h1 => ?_) (fun h1 => ?_) <;> simp only [h1, go_sem, reduceIte, Nat.reduceAdd, Nat.reduceMul, Nat.reduceSub, Nat.reduceEqDiff, Nat.reduceLeDiff, Nat.reduceLT, reduceCtorEq, Nat.succ_eq_add_one]
  · have e1 : j.1 ≤ q.l.length := by simp only [decide_eq_true_eq] at h1; omega
    have hF := fn42 (rcs n q.h q.l) q.h q.l.length j.1
    rw [detA_ok rg e1] at hF
    refine goCall0 hF rfl rfl ?_
    simp only [Int.cast_ofNat_Int, Int.reduceBEq, Int.reduceLT, Int.reduceLE, Int.reduceSub, Int.reduceAdd, Int.reduceNeg, Int.reduceEq, Int.reduceToNat, decide_true, decide_false, decide_eq_true_eq, beq_self_eq_true, bne_self_eq_false, List.reduceReplicate, List.length_set, List.length_replicate, List.length_cons, List.length_nil, List.set_cons_zero, List.set_cons_succ, Int.toNat_natCast, go_sem, reduceIte, Nat.reduceAdd, Nat.reduceMul, Nat.reduceSub, Nat.reduceEqDiff, Nat.reduceLeDiff, Nat.reduceLT, reduceCtorEq, Nat.succ_eq_add_one]
    have hsp : q.l.take (q.l.length - j.1) ++ q.l.drop (q.l.length - j.1) = q.l := List.take_append_drop _ _
    have hA := fn43 (rcs n q.h (q.l.take (q.l.length - j.1))) q.h (q.l.take (q.l.length - j.1)).length (q.l.drop (q.l.length - j.1)) (by simp only [List.length_drop]; omega)
    rw [absA_ok (by rw [hsp]; exact rg), hsp] at hA
    refine goCall0 hA rfl rfl ?_
    simp only [Int.cast_ofNat_Int, Int.reduceBEq, Int.reduceLT, Int.reduceLE, Int.reduceSub, Int.reduceAdd, Int.reduceNeg, Int.reduceEq, Int.reduceToNat, decide_true, decide_false, decide_eq_true_eq, beq_self_eq_true, bne_self_eq_false, List.reduceReplicate, List.length_set, List.length_replicate, List.length_cons, List.length_nil, List.set_cons_zero, List.set_cons_succ, Int.toNat_natCast, go_sem, reduceIte, Nat.reduceAdd, Nat.reduceMul, Nat.reduceSub, Nat.reduceEqDiff, Nat.reduceLeDiff, Nat.reduceLT, reduceCtorEq, Nat.succ_eq_add_one]
    refine goCall0 (fn44 n q.h q.l (by omega)) rfl rfl ?_
    simp only [Int.cast_ofNat_Int, Int.reduceBEq, Int.reduceLT, Int.reduceLE, Int.reduceSub, Int.reduceAdd, Int.reduceNeg, Int.reduceEq, Int.reduceToNat, decide_true, decide_false, decide_eq_true_eq, beq_self_eq_true, bne_self_eq_false, List.reduceReplicate, List.length_set, List.length_replicate, List.length_cons, List.length_nil, List.set_cons_zero, List.set_cons_succ, Int.toNat_natCast, go_sem, reduceIte, Nat.reduceAdd, Nat.reduceMul, Nat.reduceSub, Nat.reduceEqDiff, Nat.reduceLeDiff, Nat.reduceLT, reduceCtorEq, Nat.succ_eq_add_one]
    have hG2 := fn21 (rcs n q.h (q.l.take (q.l.length - j.1))) q.h (q.l.take (q.l.length - j.1)).length
    rw [listA_ok (rg.take _)] at hG2
    refine goCall0 hG2 rfl rfl ?_
    have hlt : (q.l.take (q.l.length - j.1)).length = q.l.length - j.1 := by simp only [List.length_take]; omega
    have hld : (q.l.drop (q.l.length - j.1)).length = j.1 := by simp only [List.length_drop]; omega
    have m1 : q.l.length - j.1 ≤ maxLen := Nat.le_trans (show _ ≤ 12 by omega) (by decide)
    have m2 : q.l.length - j.1 + j.1 ≤ maxLen := Nat.le_trans (show _ ≤ 12 by omega) (by decide)
    have ht2 : (encM (q.l.take (q.l.length - j.1))).take (q.l.length - j.1) = encM (q.l.take (q.l.length - j.1)) := by rw [List.take_of_length_le (by rw [encM_len, hlt]; exact Nat.le_refl _)]
    simp only [encM_len, hlt, hld, ht2, List.drop_zero, ← encM_app, hsp, Int.cast_ofNat_Int, Int.reduceBEq, Int.reduceLT, Int.reduceLE, Int.reduceSub, Int.reduceAdd, Int.reduceNeg, Int.reduceEq, Int.reduceToNat, decide_true, decide_false, decide_eq_true_eq, beq_self_eq_true, bne_self_eq_false, List.reduceReplicate, List.length_set, List.length_replicate, List.length_cons, List.length_nil, List.set_cons_zero, List.set_cons_succ, Int.toNat_natCast, go_sem, reduceIte, Nat.reduceAdd, Nat.reduceMul, Nat.reduceSub, Nat.reduceEqDiff, Nat.reduceLeDiff, Nat.reduceLT, reduceCtorEq, Nat.succ_eq_add_one]
    refine ⟨⟨by omega, m1⟩, ⟨by omega, m2, Nat.le_refl _⟩, ?_⟩
    have hle : q.l.length - j.1 + j.1 = q.l.length := by omega
    refine goCallS0 (fn23 q.l (by omega)) (by simp only [rvL, rv, hle, encM_takeL, encM_len, get, List.drop_zero, List.map_nil, List.not_mem_nil, not_false_eq_true, true_and, Nat.zero_add, Nat.le_refl, Int.cast_ofNat_Int, Int.reduceBEq, Int.reduceLT, Int.reduceLE, Int.reduceSub, Int.reduceAdd, Int.reduceNeg, Int.reduceEq, Int.reduceToNat, decide_true, decide_false, decide_eq_true_eq, beq_self_eq_true, bne_self_eq_false, List.reduceReplicate, List.length_set, List.length_replicate, List.length_cons, List.length_nil, List.set_cons_zero, List.set_cons_succ, Int.toNat_natCast, go_sem, reduceIte, Nat.reduceAdd, Nat.reduceMul, Nat.reduceSub, Nat.reduceEqDiff, Nat.reduceLeDiff, Nat.reduceLT, reduceCtorEq, Nat.succ_eq_add_one]) rfl rfl ?_
    simp only [w64_succ (show j.1 ≤ 100000 by omega), Int.cast_ofNat_Int, Int.reduceBEq, Int.reduceLT, Int.reduceLE, Int.reduceSub, Int.reduceAdd, Int.reduceNeg, Int.reduceEq, Int.reduceToNat, decide_true, decide_false, decide_eq_true_eq, beq_self_eq_true, bne_self_eq_false, List.reduceReplicate, List.length_set, List.length_replicate, List.length_cons, List.length_nil, List.set_cons_zero, List.set_cons_succ, Int.toNat_natCast, go_sem, reduceIte, Nat.reduceAdd, Nat.reduceMul, Nat.reduceSub, Nat.reduceEqDiff, Nat.reduceLeDiff, Nat.reduceLT, reduceCtorEq, Nat.succ_eq_add_one]
    exact hB _ ⟨j.1 + 1, by omega⟩ (by simp only; omega) (Wk.mk [(56, 56)] [] rfl rfl (by simp only [rvH, rvO, rvL, rv, go_sem, reduceIte, Nat.reduceAdd, Nat.reduceMul, Nat.reduceSub, Nat.reduceEqDiff, Nat.reduceLeDiff, Nat.reduceLT, reduceCtorEq, Nat.succ_eq_add_one]) (by simp only [go_sem, reduceIte, Nat.reduceAdd, Nat.reduceMul, Nat.reduceSub, Nat.reduceEqDiff, Nat.reduceLeDiff, Nat.reduceLT, reduceCtorEq, Nat.succ_eq_add_one]) (by simp only [rv, go_sem, reduceIte, Nat.reduceAdd, Nat.reduceMul, Nat.reduceSub, Nat.reduceEqDiff, Nat.reduceLeDiff, Nat.reduceLT, reduceCtorEq, Nat.succ_eq_add_one]))
  · refine goCall0 fn25 rfl rfl ?_
    simp only [Int.cast_ofNat_Int, Int.reduceBEq, Int.reduceLT, Int.reduceLE, Int.reduceSub, Int.reduceAdd, Int.reduceNeg, Int.reduceEq, Int.reduceToNat, decide_true, decide_false, decide_eq_true_eq, beq_self_eq_true, bne_self_eq_false, List.reduceReplicate, List.length_set, List.length_replicate, List.length_cons, List.length_nil, List.set_cons_zero, List.set_cons_succ, Int.toNat_natCast, go_sem, reduceIte, Nat.reduceAdd, Nat.reduceMul, Nat.reduceSub, Nat.reduceEqDiff, Nat.reduceLeDiff, Nat.reduceLT, reduceCtorEq, Nat.succ_eq_add_one]
    exact Fin.eq0 _ rfl rfl rfl rfl
end Go.Eng
