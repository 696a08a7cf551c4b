/-
  Walks and plain lemmas for RingBuilt: what the functions named below compute, over the abstract states of the engine.
  No condition beyond those that each theorem states.
-/
import Derived.Test.YteonhcjaekodkaaRng7
set_option linter.all false
set_option linter.unusedSimpArgs false
set_option maxRecDepth 20000
set_option maxHeartbeats 4000000
namespace Go.Eng
open Go Go.Proofs

/-- A ring of the reader's. -/
def rgE (L : List Int) (a : Nat) (k id lo hi : Int) : Nat × RS := ((rgV L a 1 12).toNat, roE L (rgN L a 1 12) (rgV L a 1 12).toNat k id lo hi)
theorem rgE_ok (L : List Int) (a : Nat) (k id lo hi : Int) (ha : a ≤ L.length) (hk : 0 ≤ k ∧ k ≤ 1000) (h1 : 1 ≤ id ∧ id ≤ 100000) (h3 : 0 ≤ lo) (h4 : lo ≤ hi) (h5 : hi < 65536) :
    ∃ j : Nat, RSok (rgE L a k id lo hi).1 L id j (rgE L a k id lo hi).2 ∧ Rg (rgE L a k id lo hi).1 (rgE L a k id lo hi).2.h (rgE L a k id lo hi).2.l ∧ (j : Int) ≤ k := by
  have c1 := rgV_lo L a 1 12
  have c2 := rgV_hi L a (lo := 1) (hi := 12) (by omega)
  have h2 := roCnt_le L (rgN L a 1 12) (rgV L a 1 12).toNat k hk.1
  have h6 := rsI_ok (roS_ok L (rgN L a 1 12) (rgV L a 1 12).toNat k id (by omega) (rgN_le ha)) h1.1 h3 h4 h5 (roCnt L (rgN L a 1 12) (rgV L a 1 12).toNat k) (by omega)
  exact ⟨_, h6, h6.rg (by omega) h2.1, h2.2⟩

theorem fn20 (L : List Int) (a : Nat) (k id lo hi : Int) (hL : L.length ≤ 4000) (ha : a ≤ L.length) (hk : 0 ≤ k ∧ k ≤ 1000) (h1 : 1 ≤ id ∧ id ≤ 100000) (h3 : 0 ≤ lo) (h4 : lo ≤ hi) (h5 : hi < 65536) :
    Fn Try.prog 20 [.ptr 0 0, I k, I id, I lo, I hi] [srcB L a] (ringC (rgE L a k id lo hi).1 (rgE L a k id lo hi).2.h (rgE L a k id lo hi).2.l) [srcB L (rgE L a k id lo hi).2.a] [] := by
  refine Fn.of_go ok20 (by simp) ?_
  unfold s20
  have c1 := rgV_lo L a 1 12
  have c2 := rgV_hi L a (lo := 1) (hi := 12) (by omega)
  simp only [Int.cast_ofNat_Int, Int.reduceBEq, Int.reduceLT, Int.reduceLE, Int.reduceSub, Int.reduceAdd, Int.reduceNeg, Int.reduceEq, Int.reduceToNat, decide_true, decide_false, decide_eq_true_eq, beq_self_eq_true, bne_self_eq_false, List.reduceReplicate, List.length_set, List.length_replicate, List.length_cons, List.length_nil, List.set_cons_zero, List.set_cons_succ, Int.toNat_natCast, go_sem, reduceIte, Nat.reduceAdd, Nat.reduceMul, Nat.reduceSub, Nat.reduceEqDiff, Nat.reduceLeDiff, Nat.reduceLT, reduceCtorEq, Nat.succ_eq_add_one]
  refine goCall1 (b := 0) (fn27 L a 1 12 hL (by omega) (by omega)) ⟨rfl, ⟨rfl, rfl⟩, ⟨rfl, rfl⟩, trivial⟩ rfl rfl rfl rfl ?_
  have hc : rgV L a 1 12 = ((rgV L a 1 12).toNat : Nat) := by omega
  have hF := fn61 L (rgN L a 1 12) (rgV L a 1 12).toNat k id lo hi hL (rgN_le ha) (by omega) hk h1 h3 h4 h5
  rw [← hc] at hF
  simp only [Int.cast_ofNat_Int, Int.reduceBEq, Int.reduceLT, Int.reduceLE, Int.reduceSub, Int.reduceAdd, Int.reduceNeg, Int.reduceEq, Int.reduceToNat, decide_true, decide_false, decide_eq_true_eq, beq_self_eq_true, bne_self_eq_false, List.reduceReplicate, List.length_set, List.length_replicate, List.length_cons, List.length_nil, List.set_cons_zero, List.set_cons_succ, Int.toNat_natCast, go_sem, reduceIte, Nat.reduceAdd, Nat.reduceMul, Nat.reduceSub, Nat.reduceEqDiff, Nat.reduceLeDiff, Nat.reduceLT, reduceCtorEq, Nat.succ_eq_add_one]
  refine goCall1 (b := 0) hF ⟨rfl, ⟨rfl, rfl⟩, ⟨rfl, rfl⟩, ⟨rfl, rfl⟩, ⟨rfl, rfl⟩, ⟨rfl, rfl⟩, trivial⟩ rfl rfl rfl rfl ?_
  simp only [Int.cast_ofNat_Int, Int.reduceBEq, Int.reduceLT, Int.reduceLE, Int.reduceSub, Int.reduceAdd, Int.reduceNeg, Int.reduceEq, Int.reduceToNat, decide_true, decide_false, decide_eq_true_eq, beq_self_eq_true, bne_self_eq_false, List.reduceReplicate, List.length_set, List.length_replicate, List.length_cons, List.length_nil, List.set_cons_zero, List.set_cons_succ, Int.toNat_natCast, go_sem, reduceIte, Nat.reduceAdd, Nat.reduceMul, Nat.reduceSub, Nat.reduceEqDiff, Nat.reduceLeDiff, Nat.reduceLT, reduceCtorEq, Nat.succ_eq_add_one]
  exact Fin.eq1 _ rfl rfl rfl rfl rfl rfl rfl

/-- All but one. -/
theorem fn24 (ms : List Msg) (i : Nat) (hi : i < ms.length) (hl : ms.length ≤ 10000) : Fn Try.prog 24 [slM ms, I i] [] (slM (ms.eraseIdx i)) [] [] := by
  refine Fn.of_go ok24 (by simp) ?_
  unfold s24
  have e1 : IntKind.i64.wrap ((i : Int) + 1) = ((i + 1 : Nat) : Int) := w64_succ (by omega)
  have m1 : i ≤ maxLen := Nat.le_trans (show _ ≤ 10000 by omega) (by decide)
  have m2 : i + (ms.length - (i + 1)) ≤ maxLen := Nat.le_trans (show _ ≤ 10000 by omega) (by decide)
  simp only [e1, Int.toNat_natCast, encM_take, encM_drop, encM_len, List.length_take, List.length_drop, Nat.min_eq_left (Nat.le_of_lt hi), List.take_length, Int.cast_ofNat_Int, Int.reduceBEq, Int.reduceLT, Int.reduceLE, Int.reduceSub, Int.reduceAdd, Int.reduceNeg, Int.reduceEq, Int.reduceToNat, decide_true, decide_false, decide_eq_true_eq, beq_self_eq_true, bne_self_eq_false, List.reduceReplicate, List.length_set, List.length_replicate, List.length_cons, List.length_nil, List.set_cons_zero, List.set_cons_succ, Int.toNat_natCast, go_sem, reduceIte, Nat.reduceAdd, Nat.reduceMul, Nat.reduceSub, Nat.reduceEqDiff, Nat.reduceLeDiff, Nat.reduceLT, reduceCtorEq, Nat.succ_eq_add_one]
  have e2 : encM (List.take i (List.take i ms)) ++ encM (List.drop (i + 1) ms) = encM (ms.eraseIdx i) := by
    rw [List.eraseIdx_eq_take_drop_succ, encM_app, List.take_take, Nat.min_self]
  have e3 : (ms.eraseIdx i).length = i + (ms.length - (i + 1)) := by rw [List.length_eraseIdx_of_lt hi]; omega
  rw [e2]
  refine ⟨⟨by omega, by omega⟩, ⟨by omega, m1⟩, ⟨by omega, by omega, by omega⟩, ⟨by omega, m2, Nat.le_refl _⟩, rfl, Fin.mk0 _ rfl rfl ?_⟩
  simp only [retOne, rv, ← e3, encM_takeL, List.drop_zero, List.map_nil, List.not_mem_nil, not_false_eq_true, true_and, encM_len, Nat.zero_add, Nat.le_refl, Int.cast_ofNat_Int, Int.reduceBEq, Int.reduceLT, Int.reduceLE, Int.reduceSub, Int.reduceAdd, Int.reduceNeg, Int.reduceEq, Int.reduceToNat, decide_true, decide_false, decide_eq_true_eq, beq_self_eq_true, bne_self_eq_false, List.reduceReplicate, List.length_set, List.length_replicate, List.length_cons, List.length_nil, List.set_cons_zero, List.set_cons_succ, Int.toNat_natCast, go_sem, reduceIte, Nat.reduceAdd, Nat.reduceMul, Nat.reduceSub, Nat.reduceEqDiff, Nat.reduceLeDiff, Nat.reduceLT, reduceCtorEq, Nat.succ_eq_add_one]
theorem listA_ok {n h : Nat} {l : List Msg} (rg : Rg n h l) : listA (rcs n h l) h l.length = l := by
  unfold listA
  rw [if_neg (by simp [rg.ok]), Int.toNat_natCast, Int.toNat_natCast, ordL_rcs rg.ll rg.hh]
theorem fn25 : Fn Try.prog 25 [] [] (Bo true) [] [] := by
  refine Fn.of_go ok25 (by simp) ?_
  unfold s25
  simp only [Int.cast_ofNat_Int, Int.reduceBEq, Int.reduceLT, Int.reduceLE, Int.reduceSub, Int.reduceAdd, Int.reduceNeg, Int.reduceEq, Int.reduceToNat, decide_true, decide_false, decide_eq_true_eq, beq_self_eq_true, bne_self_eq_false, List.reduceReplicate, List.length_set, List.length_replicate, List.length_cons, List.length_nil, List.set_cons_zero, List.set_cons_succ, Int.toNat_natCast, go_sem, reduceIte, Nat.reduceAdd, Nat.reduceMul, Nat.reduceSub, Nat.reduceEqDiff, Nat.reduceLeDiff, Nat.reduceLT, reduceCtorEq, Nat.succ_eq_add_one]
  refine goCall0 (fn35 3) rfl rfl ?_
  have e1 : newR 3 = .tup [ringC 3 0 [], I 0] := rfl
  simp only [e1, Int.cast_ofNat_Int, Int.reduceBEq, Int.reduceLT, Int.reduceLE, Int.reduceSub, Int.reduceAdd, Int.reduceNeg, Int.reduceEq, Int.reduceToNat, decide_true, decide_false, decide_eq_true_eq, beq_self_eq_true, bne_self_eq_false, List.reduceReplicate, List.length_set, List.length_replicate, List.length_cons, List.length_nil, List.set_cons_zero, List.set_cons_succ, Int.toNat_natCast, go_sem, reduceIte, Nat.reduceAdd, Nat.reduceMul, Nat.reduceSub, Nat.reduceEqDiff, Nat.reduceLeDiff, Nat.reduceLT, reduceCtorEq, Nat.succ_eq_add_one]
  have hF := fn37 (rcs 3 0 []) 0 0 ⟨1, 0, 0, 0, 0, 0, ⟨#[]⟩⟩
  have r0 : Rg 3 0 [] := ⟨by omega, by omega, by omega, by simp, rfl⟩
  have e2 : pushFA (rcs 3 0 []) 0 0 ⟨1, 0, 0, 0, 0, 0, ⟨#[]⟩⟩ = .tup [ringC 3 2 [⟨1, 0, 0, 0, 0, 0, ⟨#[]⟩⟩], I 0] := pushF_ok (m := ⟨1, 0, 0, 0, 0, 0, ⟨#[]⟩⟩) r0 rfl (by simp) (by simp [ids])
  rw [e2] at hF
  refine goCall0 hF rfl rfl ?_
  simp only [Int.cast_ofNat_Int, Int.reduceBEq, Int.reduceLT, Int.reduceLE, Int.reduceSub, Int.reduceAdd, Int.reduceNeg, Int.reduceEq, Int.reduceToNat, decide_true, decide_false, decide_eq_true_eq, beq_self_eq_true, bne_self_eq_false, List.reduceReplicate, List.length_set, List.length_replicate, List.length_cons, List.length_nil, List.set_cons_zero, List.set_cons_succ, Int.toNat_natCast, go_sem, reduceIte, Nat.reduceAdd, Nat.reduceMul, Nat.reduceSub, Nat.reduceEqDiff, Nat.reduceLeDiff, Nat.reduceLT, reduceCtorEq, Nat.succ_eq_add_one]
  have hG := fn21 (rcs 3 2 [⟨1, 0, 0, 0, 0, 0, ⟨#[]⟩⟩]) 2 1
  have e3 : listA (rcs 3 2 [⟨1, 0, 0, 0, 0, 0, ⟨#[]⟩⟩]) 2 1 = [⟨1, 0, 0, 0, 0, 0, ⟨#[]⟩⟩] := listA_ok (l := [⟨1, 0, 0, 0, 0, 0, ⟨#[]⟩⟩]) ⟨by omega, by omega, by omega, by simp, rfl⟩
  rw [e3] at hG
  refine goCall0 hG rfl rfl ?_
  simp only [Int.cast_ofNat_Int, Int.reduceBEq, Int.reduceLT, Int.reduceLE, Int.reduceSub, Int.reduceAdd, Int.reduceNeg, Int.reduceEq, Int.reduceToNat, decide_true, decide_false, decide_eq_true_eq, beq_self_eq_true, bne_self_eq_false, List.reduceReplicate, List.length_set, List.length_replicate, List.length_cons, List.length_nil, List.set_cons_zero, List.set_cons_succ, Int.toNat_natCast, go_sem, reduceIte, Nat.reduceAdd, Nat.reduceMul, Nat.reduceSub, Nat.reduceEqDiff, Nat.reduceLeDiff, Nat.reduceLT, reduceCtorEq, Nat.succ_eq_add_one]
  exact Fin.eq0 _ rfl rfl rfl rfl

theorem Rg.erase {n h : Nat} {l : List Msg} {L : List Int} {id : Int} {j : Nat} {a : Nat} (hq : RSok n L id j ⟨h, l, a⟩) (rg : Rg n h l) (i : Nat) : Rg n h (l.eraseIdx i) := by
  refine ⟨rg.n1, rg.n2, rg.hh, ?_, sndV_ok (fun m hm => hq.ok m (List.mem_of_mem_eraseIdx hm)) ?_⟩
  · have := List.length_eraseIdx_le l i
    have := rg.ll
    omega
  · have : ids (l.eraseIdx i) = (ids l).eraseIdx i := by simp only [ids, List.eraseIdx_eq_take_drop_succ, List.map_append, List.map_take, List.map_drop]
    rw [this]
    exact hq.nd.sublist (List.eraseIdx_sublist _ _)
theorem idxV_at {l : List Msg} {i : Nat} (hn : (ids l).Nodup) (hi : i < l.length) : idxV l l[i].id = i := by
  have h2 : i < (ids l).length := by rw [ids_len]; exact hi
  have h3 : (ids l)[i] = l[i].id := by simp [ids]
  have h4 := idx_at h2 (((take_succ_nodup h2).1 (hn.sublist (List.take_sublist _ _))).2) rfl
  rw [h3] at h4
  unfold idxV
  rw [if_pos h4.1, h4.2]
theorem remA_ok {n h i : Nat} {l : List Msg} (rg : Rg n h l) (hn : (ids l).Nodup) (hi : i < l.length) : remA (rcs n h l) h l.length l[i].id = .tup [ringC n h (l.eraseIdx i), .agg l[i].enc, I 0] := by
  have e := idxV_at hn hi
  unfold remA
  rw [if_neg (by simp [rg.ok]), Int.toNat_natCast, Int.toNat_natCast, ordL_rcs rg.ll rg.hh, e, if_neg (by omega), Int.toNat_natCast, rcs_len, gt_in hi]
theorem remA_no {n h : Nat} {l : List Msg} {x : Int} (rg : Rg n h l) (hx : x ∉ ids l) : remA (rcs n h l) h l.length x = .tup [ringA [] 0 0, .agg zM.enc, I 4] := by
  unfold remA
  rw [if_neg (by simp [rg.ok]), Int.toNat_natCast, Int.toNat_natCast, ordL_rcs rg.ll rg.hh, if_pos (by unfold idxV; rw [if_neg hx]; omega)]
/-- The law. -/
theorem fn4 (l : List Int) : Fn Try.prog 4 [.sl 1 (encI l)] [] (Bo true) [] [] := by
  refine Fn.of_go ok4 (by simp) ?_
  unfold s4
  simp only [Int.cast_ofNat_Int, Int.reduceBEq, Int.reduceLT, Int.reduceLE, Int.reduceSub, Int.reduceAdd, Int.reduceNeg, Int.reduceEq, Int.reduceToNat, decide_true, decide_false, decide_eq_true_eq, beq_self_eq_true, bne_self_eq_false, List.reduceReplicate, List.length_set, List.length_replicate, List.length_cons, List.length_nil, List.set_cons_zero, List.set_cons_succ, Int.toNat_natCast, go_sem, reduceIte, Nat.reduceAdd, Nat.reduceMul, Nat.reduceSub, Nat.reduceEqDiff, Nat.reduceLeDiff, Nat.reduceLT, reduceCtorEq, Nat.succ_eq_add_one]
  refine goCallE (fn19 l) rfl rfl (by simp) rfl ?_
  have hl : (l.take 4000).length ≤ 4000 := by simp only [List.length_take]; omega
  simp only [obsFrom, sh, Int.cast_ofNat_Int, Int.reduceBEq, Int.reduceLT, Int.reduceLE, Int.reduceSub, Int.reduceAdd, Int.reduceNeg, Int.reduceEq, Int.reduceToNat, decide_true, decide_false, decide_eq_true_eq, beq_self_eq_true, bne_self_eq_false, List.reduceReplicate, List.length_set, List.length_replicate, List.length_cons, List.length_nil, List.set_cons_zero, List.set_cons_succ, Int.toNat_natCast, go_sem, reduceIte, Nat.reduceAdd, Nat.reduceMul, Nat.reduceSub, Nat.reduceEqDiff, Nat.reduceLeDiff, Nat.reduceLT, reduceCtorEq, Nat.succ_eq_add_one]
  generalize l.take 4000 = L at hl ⊢
  refine goCall1 (b := 24) (fn20 L 0 8 1 0 65535 hl (by omega) (by omega) (by omega) (by omega) (by omega) (by omega)) ⟨rfl, ⟨rfl, rfl⟩, ⟨rfl, rfl⟩, ⟨rfl, rfl⟩, ⟨rfl, rfl⟩, trivial⟩ rfl rfl rfl rfl ?_
  obtain ⟨j0, hq, rg, hj0⟩ := rgE_ok L 0 8 1 0 65535 (by omega) (by omega) (by omega) (by omega) (by omega) (by omega)
  generalize rgE L 0 8 1 0 65535 = E at hq rg ⊢
  obtain ⟨n, q⟩ := E
  simp only at hq rg ⊢
  simp only [Int.cast_ofNat_Int, Int.reduceBEq, Int.reduceLT, Int.reduceLE, Int.reduceSub, Int.reduceAdd, Int.reduceNeg, Int.reduceEq, Int.reduceToNat, decide_true, decide_false, decide_eq_true_eq, beq_self_eq_true, bne_self_eq_false, List.reduceReplicate, List.length_set, List.length_replicate, List.length_cons, List.length_nil, List.set_cons_zero, List.set_cons_succ, Int.toNat_natCast, go_sem, reduceIte, Nat.reduceAdd, Nat.reduceMul, Nat.reduceSub, Nat.reduceEqDiff, Nat.reduceLeDiff, Nat.reduceLT, reduceCtorEq, Nat.succ_eq_add_one]
  have hG := fn21 (rcs n q.h q.l) q.h q.l.length
  rw [listA_ok rg] at hG
  refine goCall0 hG rfl rfl ?_
  simp only [Int.cast_ofNat_Int, Int.reduceBEq, Int.reduceLT, Int.reduceLE, Int.reduceSub, Int.reduceAdd, Int.reduceNeg, Int.reduceEq, Int.reduceToNat, decide_true, decide_false, decide_eq_true_eq, beq_self_eq_true, bne_self_eq_false, List.reduceReplicate, List.length_set, List.length_replicate, List.length_cons, List.length_nil, List.set_cons_zero, List.set_cons_succ, Int.toNat_natCast, go_sem, reduceIte, Nat.reduceAdd, Nat.reduceMul, Nat.reduceSub, Nat.reduceEqDiff, Nat.reduceLeDiff, Nat.reduceLT, reduceCtorEq, Nat.succ_eq_add_one]
  have hln : q.l.length ≤ 12 := by have := rg.ll; have := rg.n2; omega
  refine go_loop (fun j : {j : Nat // j ≤ q.l.length} => ⟨2000, [(4, .ptr 56 0), (5, slM q.l), (6, I j.1)], [(56, .box [slM (rcs n q.h q.l), I q.h, I q.l.length])]⟩) (fun j => q.l.length - j.1) ⟨0, by omega⟩
    (Wk.mk [(56, 56)] [] rfl rfl (by simp only [rvH, rvO, rvL, rv, go_sem, reduceIte, Nat.reduceAdd, Nat.reduceMul, Nat.reduceSub, Nat.reduceEqDiff, Nat.reduceLeDiff, Nat.reduceLT, reduceCtorEq, Nat.succ_eq_add_one]) (by simp only [go_sem, reduceIte, Nat.reduceAdd, Nat.reduceMul, Nat.reduceSub, Nat.reduceEqDiff, Nat.reduceLeDiff, Nat.reduceLT, reduceCtorEq, Nat.succ_eq_add_one]) (by simp only [rv, Int.cast_ofNat_Int, Int.reduceBEq, Int.reduceLT, Int.reduceLE, Int.reduceSub, Int.reduceAdd, Int.reduceNeg, Int.reduceEq, Int.reduceToNat, decide_true, decide_false, decide_eq_true_eq, beq_self_eq_true, bne_self_eq_false, List.reduceReplicate, List.length_set, List.length_replicate, List.length_cons, List.length_nil, List.set_cons_zero, List.set_cons_succ, Int.toNat_natCast, go_sem, reduceIte, Nat.reduceAdd, Nat.reduceMul, Nat.reduceSub, Nat.reduceEqDiff, Nat.reduceLeDiff, Nat.reduceLT, reduceCtorEq, Nat.succ_eq_add_one]; try simp)) ?_
  intro j B hB
  simp only [go_sem, reduceIte, Nat.reduceAdd, Nat.reduceMul, Nat.reduceSub, Nat.reduceEqDiff, Nat.reduceLeDiff, Nat.reduceLT, reduceCtorEq, Nat.succ_eq_add_one]
  refine goIf_split (fun h1 => ?_) (fun h1 => ?_) <;> simp only [h1, go_sem, reduceIte, Nat.reduceAdd, Nat.reduceMul, Nat.reduceSub, Nat.reduceEqDiff, Nat.reduceLeDiff, Nat.reduceLT, reduceCtorEq, Nat.succ_eq_add_one]
  · have e1 : j.1 < q.l.length := by simp only [decide_eq_true_eq] at h1; omega
    have e5 : nth (encM q.l) j.1 = [I q.l[j.1].id, I q.l[j.1].route, I q.l[j.1].epoch, I q.l[j.1].count, I q.l[j.1].gen, I q.l[j.1].sent, .v (.string q.l[j.1].body)] := encM_nth e1
    have hb : 0 ≤ (j.1 : Int) ∧ (j.1 : Int) < (q.l.length : Int) := ⟨by omega, by omega⟩
    simp only [Int.toNat_natCast, e5, go_sem, reduceIte, Nat.reduceAdd, Nat.reduceMul, Nat.reduceSub, Nat.reduceEqDiff, Nat.reduceLeDiff, Nat.reduceLT, reduceCtorEq, Nat.succ_eq_add_one]
    refine ⟨hb, ?_⟩
    have hF := fn22 (rcs n q.h q.l) q.h q.l.length q.l[j.1].id
    rw [remA_ok rg hq.nd e1] at hF
    refine goCallD0 hF rfl rfl ?_
    simp only [Int.cast_ofNat_Int, Int.reduceBEq, Int.reduceLT, Int.reduceLE, Int.reduceSub, Int.reduceAdd, Int.reduceNeg, Int.reduceEq, Int.reduceToNat, decide_true, decide_false, decide_eq_true_eq, beq_self_eq_true, bne_self_eq_false, List.reduceReplicate, List.length_set, List.length_replicate, List.length_cons, List.length_nil, List.set_cons_zero, List.set_cons_succ, Int.toNat_natCast, go_sem, reduceIte, Nat.reduceAdd, Nat.reduceMul, Nat.reduceSub, Nat.reduceEqDiff, Nat.reduceLeDiff, Nat.reduceLT, reduceCtorEq, Nat.succ_eq_add_one]
    refine ⟨rfl, ?_⟩
    have re := Rg.erase (h := q.h) (l := q.l) (a := q.a) hq rg j.1
    have hG2 := fn21 (rcs n q.h (q.l.eraseIdx j.1)) q.h (q.l.eraseIdx j.1).length
    rw [listA_ok re] at hG2
    simp only [encM_nth e1, Int.cast_ofNat_Int, Int.reduceBEq, Int.reduceLT, Int.reduceLE, Int.reduceSub, Int.reduceAdd, Int.reduceNeg, Int.reduceEq, Int.reduceToNat, decide_true, decide_false, decide_eq_true_eq, beq_self_eq_true, bne_self_eq_false, List.reduceReplicate, List.length_set, List.length_replicate, List.length_cons, List.length_nil, List.set_cons_zero, List.set_cons_succ, Int.toNat_natCast, go_sem, reduceIte, Nat.reduceAdd, Nat.reduceMul, Nat.reduceSub, Nat.reduceEqDiff, Nat.reduceLeDiff, Nat.reduceLT, reduceCtorEq, Nat.succ_eq_add_one]
    refine ⟨hb, ?_⟩
    refine goCallD0 hG2 rfl rfl ?_
    simp only [Int.cast_ofNat_Int, Int.reduceBEq, Int.reduceLT, Int.reduceLE, Int.reduceSub, Int.reduceAdd, Int.reduceNeg, Int.reduceEq, Int.reduceToNat, decide_true, decide_false, decide_eq_true_eq, beq_self_eq_true, bne_self_eq_false, List.reduceReplicate, List.length_set, List.length_replicate, List.length_cons, List.length_nil, List.set_cons_zero, List.set_cons_succ, Int.toNat_natCast, go_sem, reduceIte, Nat.reduceAdd, Nat.reduceMul, Nat.reduceSub, Nat.reduceEqDiff, Nat.reduceLeDiff, Nat.reduceLT, reduceCtorEq, Nat.succ_eq_add_one]
    refine goCallD0 (fn24 q.l j.1 e1 (by omega)) rfl rfl ?_
    simp only [Int.cast_ofNat_Int, Int.reduceBEq, Int.reduceLT, Int.reduceLE, Int.reduceSub, Int.reduceAdd, Int.reduceNeg, Int.reduceEq, Int.reduceToNat, decide_true, decide_false, decide_eq_true_eq, beq_self_eq_true, bne_self_eq_false, List.reduceReplicate, List.length_set, List.length_replicate, List.length_cons, List.length_nil, List.set_cons_zero, List.set_cons_succ, Int.toNat_natCast, go_sem, reduceIte, Nat.reduceAdd, Nat.reduceMul, Nat.reduceSub, Nat.reduceEqDiff, Nat.reduceLeDiff, Nat.reduceLT, reduceCtorEq, Nat.succ_eq_add_one]
    refine goCallD0 (fn23 (q.l.eraseIdx j.1) (by have := List.length_eraseIdx_le q.l j.1; omega)) rfl rfl ?_
    simp only [w64_succ (show j.1 ≤ 100000 by omega), Int.cast_ofNat_Int, Int.reduceBEq, Int.reduceLT, Int.reduceLE, Int.reduceSub, Int.reduceAdd, Int.reduceNeg, Int.reduceEq, Int.reduceToNat, decide_true, decide_false, decide_eq_true_eq, beq_self_eq_true, bne_self_eq_false, List.reduceReplicate, List.length_set, List.length_replicate, List.length_cons, List.length_nil, List.set_cons_zero, List.set_cons_succ, Int.toNat_natCast, go_sem, reduceIte, Nat.reduceAdd, Nat.reduceMul, Nat.reduceSub, Nat.reduceEqDiff, Nat.reduceLeDiff, Nat.reduceLT, reduceCtorEq, Nat.succ_eq_add_one]
    exact ⟨rfl, hB _ ⟨j.1 + 1, e1⟩ (by simp only; omega) (Wk.mk [(56, 56)] [] rfl rfl (by simp only [rvH, rvO, rvL, rv, go_sem, reduceIte, Nat.reduceAdd, Nat.reduceMul, Nat.reduceSub, Nat.reduceEqDiff, Nat.reduceLeDiff, Nat.reduceLT, reduceCtorEq, Nat.succ_eq_add_one]) (by simp only [go_sem, reduceIte, Nat.reduceAdd, Nat.reduceMul, Nat.reduceSub, Nat.reduceEqDiff, Nat.reduceLeDiff, Nat.reduceLT, reduceCtorEq, Nat.succ_eq_add_one]) (by simp only [rv, go_sem, reduceIte, Nat.reduceAdd, Nat.reduceMul, Nat.reduceSub, Nat.reduceEqDiff, Nat.reduceLeDiff, Nat.reduceLT, reduceCtorEq, Nat.succ_eq_add_one]))⟩
  · have hno : (999 : Int) ∉ ids q.l := fun hx => by
      obtain ⟨x, hx1, hx2⟩ := List.mem_map.1 hx
      have := hq.lt x hx1
      omega
    have hF := fn22 (rcs n q.h q.l) q.h q.l.length 999
    rw [remA_no rg hno] at hF
    refine goCall0 hF rfl rfl ?_
    simp only [Int.cast_ofNat_Int, Int.reduceBEq, Int.reduceLT, Int.reduceLE, Int.reduceSub, Int.reduceAdd, Int.reduceNeg, Int.reduceEq, Int.reduceToNat, decide_true, decide_false, decide_eq_true_eq, beq_self_eq_true, bne_self_eq_false, List.reduceReplicate, List.length_set, List.length_replicate, List.length_cons, List.length_nil, List.set_cons_zero, List.set_cons_succ, Int.toNat_natCast, go_sem, reduceIte, Nat.reduceAdd, Nat.reduceMul, Nat.reduceSub, Nat.reduceEqDiff, Nat.reduceLeDiff, Nat.reduceLT, reduceCtorEq, Nat.succ_eq_add_one]
    refine goCall0 fn25 rfl rfl ?_
    simp only [Int.cast_ofNat_Int, Int.reduceBEq, Int.reduceLT, Int.reduceLE, Int.reduceSub, Int.reduceAdd, Int.reduceNeg, Int.reduceEq, Int.reduceToNat, decide_true, decide_false, decide_eq_true_eq, beq_self_eq_true, bne_self_eq_false, List.reduceReplicate, List.length_set, List.length_replicate, List.length_cons, List.length_nil, List.set_cons_zero, List.set_cons_succ, Int.toNat_natCast, go_sem, reduceIte, Nat.reduceAdd, Nat.reduceMul, Nat.reduceSub, Nat.reduceEqDiff, Nat.reduceLeDiff, Nat.reduceLT, reduceCtorEq, Nat.succ_eq_add_one]
    exact Fin.eq0 _ rfl rfl rfl rfl
end Go.Eng
