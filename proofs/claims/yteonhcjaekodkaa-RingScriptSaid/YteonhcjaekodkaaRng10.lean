/-
  Walks and plain lemmas for RingScript: what the functions named below compute, over the abstract states of the engine.
  No condition beyond those that each theorem states.
-/
import Derived.Test.YteonhcjaekodkaaRng9
set_option linter.all false
set_option linter.unusedSimpArgs false
set_option maxRecDepth 20000
set_option maxHeartbeats 4000000
namespace Go.Eng
open Go Go.Proofs

theorem fn6 (l : List Int) : Fn Try.prog 6 [.sl 1 (encI l)] [] (Bo true) [] [] := by
  refine Fn.of_go ok6 (by simp) ?_
  unfold s6
  simp only [Int.cast_ofNat_Int, Int.reduceBEq, Int.reduceLT, Int.reduceLE, Int.reduceSub, Int.reduceAdd, Int.reduceNeg, Int.reduceEq, Int.reduceToNat, decide_true, decide_false, decide_eq_true_eq, beq_self_eq_true, bne_self_eq_false, List.reduceReplicate, List.length_set, List.length_replicate, List.length_cons, List.length_nil, List.set_cons_zero, List.set_cons_succ, Int.toNat_natCast, go_sem, reduceIte, Nat.reduceAdd, Nat.reduceMul, Nat.reduceSub, Nat.reduceEqDiff, Nat.reduceLeDiff, Nat.reduceLT, reduceCtorEq, Nat.succ_eq_add_one]
  refine goCallE (fn19 l) rfl rfl (by simp) rfl ?_
  have hl : (l.take 4000).length ≤ 4000 := by simp only [List.length_take]; omega
  simp only [obsFrom, sh, Int.cast_ofNat_Int, Int.reduceBEq, Int.reduceLT, Int.reduceLE, Int.reduceSub, Int.reduceAdd, Int.reduceNeg, Int.reduceEq, Int.reduceToNat, decide_true, decide_false, decide_eq_true_eq, beq_self_eq_true, bne_self_eq_false, List.reduceReplicate, List.length_set, List.length_replicate, List.length_cons, List.length_nil, List.set_cons_zero, List.set_cons_succ, Int.toNat_natCast, go_sem, reduceIte, Nat.reduceAdd, Nat.reduceMul, Nat.reduceSub, Nat.reduceEqDiff, Nat.reduceLeDiff, Nat.reduceLT, reduceCtorEq, Nat.succ_eq_add_one]
  refine goCall1 (b := 24) (fn27 (l.take 4000) 0 1 12 hl (by omega) (by omega)) ⟨rfl, ⟨rfl, rfl⟩, ⟨rfl, rfl⟩, trivial⟩ rfl rfl rfl rfl ?_
  simp only [Int.cast_ofNat_Int, Int.reduceBEq, Int.reduceLT, Int.reduceLE, Int.reduceSub, Int.reduceAdd, Int.reduceNeg, Int.reduceEq, Int.reduceToNat, decide_true, decide_false, decide_eq_true_eq, beq_self_eq_true, bne_self_eq_false, List.reduceReplicate, List.length_set, List.length_replicate, List.length_cons, List.length_nil, List.set_cons_zero, List.set_cons_succ, Int.toNat_natCast, go_sem, reduceIte, Nat.reduceAdd, Nat.reduceMul, Nat.reduceSub, Nat.reduceEqDiff, Nat.reduceLeDiff, Nat.reduceLT, reduceCtorEq, Nat.succ_eq_add_one]
  have c1 := rgV_lo (l.take 4000) 0 1 12
  have c2 := rgV_hi (l.take 4000) 0 (lo := 1) (hi := 12) (by omega)
  generalize rgV (l.take 4000) 0 1 12 = c at c1 c2 ⊢
  obtain ⟨n, rfl⟩ : ∃ n : Nat, c = n := ⟨c.toNat, by omega⟩
  have e1 : newR n = .tup [ringC n 0 [], I 0] := by unfold newR; rw [if_neg (by omega), if_neg (by omega), Int.toNat_natCast]
  have hN := fn35 n
  rw [e1] at hN
  refine goCall0 hN rfl rfl ?_
  simp only [Int.cast_ofNat_Int, Int.reduceBEq, Int.reduceLT, Int.reduceLE, Int.reduceSub, Int.reduceAdd, Int.reduceNeg, Int.reduceEq, Int.reduceToNat, decide_true, decide_false, decide_eq_true_eq, beq_self_eq_true, bne_self_eq_false, List.reduceReplicate, List.length_set, List.length_replicate, List.length_cons, List.length_nil, List.set_cons_zero, List.set_cons_succ, Int.toNat_natCast, go_sem, reduceIte, Nat.reduceAdd, Nat.reduceMul, Nat.reduceSub, Nat.reduceEqDiff, Nat.reduceLeDiff, Nat.reduceLT, reduceCtorEq, Nat.succ_eq_add_one]
  have ha := rgN_le (l := l.take 4000) (a := 0) (lo := 1) (hi := 12) (by omega)
  generalize rgN (l.take 4000) 0 1 12 = a0 at ha ⊢
  generalize l.take 4000 = L at hl ha ⊢
  refine go_loop (rpS L n) (fun q => 41 - q.i) ⟨1, 0, [], 0, [], a0, by omega, Rg.of (by omega) (by omega) (by omega) (by simp) (by simp) (by simp [ids]), by simp, by simp, by simp [ids], rfl, by simp, ha⟩
    (Wk.mk [(24, 24), (88, 88)] [1500] rfl rfl (by simp only [rpS, rvH, rvO, rvL, rv, go_sem, reduceIte, Nat.reduceAdd, Nat.reduceMul, Nat.reduceSub, Nat.reduceEqDiff, Nat.reduceLeDiff, Nat.reduceLT, reduceCtorEq, Nat.succ_eq_add_one]; exact ⟨rfl, rfl⟩) (by simp only [rpS, rvN, go_sem, reduceIte, Nat.reduceAdd, Nat.reduceMul, Nat.reduceSub, Nat.reduceEqDiff, Nat.reduceLeDiff, Nat.reduceLT, reduceCtorEq, Nat.succ_eq_add_one]) (by simp only [rpS, rv, Int.cast_ofNat_Int, Int.reduceBEq, Int.reduceLT, Int.reduceLE, Int.reduceSub, Int.reduceAdd, Int.reduceNeg, Int.reduceEq, Int.reduceToNat, decide_true, decide_false, decide_eq_true_eq, beq_self_eq_true, bne_self_eq_false, List.reduceReplicate, List.length_set, List.length_replicate, List.length_cons, List.length_nil, List.set_cons_zero, List.set_cons_succ, Int.toNat_natCast, go_sem, reduceIte, Nat.reduceAdd, Nat.reduceMul, Nat.reduceSub, Nat.reduceEqDiff, Nat.reduceLeDiff, Nat.reduceLT, reduceCtorEq, Nat.succ_eq_add_one]; simp)) ?_
  intro q B hB
  unfold rpS
  simp only [go_sem, reduceIte, Nat.reduceAdd, Nat.reduceMul, Nat.reduceSub, Nat.reduceEqDiff, Nat.reduceLeDiff, Nat.reduceLT, reduceCtorEq, Nat.succ_eq_add_one]
  have hi := q.hi
  have rg := q.rg
  have hn1 := rg.n1; have hn2 := rg.n2; have hhh := rg.hh; have hll := rg.ll
  have hms := q.hr
  have hms2 := q.hr2
  by_cases h3 : (q.i : Int) ≤ 40
  · by_cases h4 : (q.i : Int) < 4
    · simp only [h3, h4, Int.cast_ofNat_Int, Int.reduceBEq, Int.reduceLT, Int.reduceLE, Int.reduceSub, Int.reduceAdd, Int.reduceNeg, Int.reduceEq, Int.reduceToNat, decide_true, decide_false, decide_eq_true_eq, beq_self_eq_true, bne_self_eq_false, List.reduceReplicate, List.length_set, List.length_replicate, List.length_cons, List.length_nil, List.set_cons_zero, List.set_cons_succ, Int.toNat_natCast, go_sem, reduceIte, Nat.reduceAdd, Nat.reduceMul, Nat.reduceSub, Nat.reduceEqDiff, Nat.reduceLeDiff, Nat.reduceLT, reduceCtorEq, Nat.succ_eq_add_one]
      refine goCall1 (b := 24) (fn30 L q.a q.i 0 65535 hl) ⟨rfl, ⟨rfl, rfl⟩, ⟨rfl, rfl⟩, ⟨rfl, rfl⟩, trivial⟩ rfl rfl rfl rfl ?_
      have hm := msgV_ok L q.a (id := q.i) (lo := 0) (hi := 65535) (by omega) (by omega) (by omega) (by omega) (by omega)
      have hid : (msgV L q.a q.i 0 65535).id = q.i := rfl
      have w2 := msgN_le q.ha
      generalize msgV L q.a q.i 0 65535 = m at hm hid ⊢
      generalize msgN L q.a = a2 at w2 ⊢
      have hni : m.id ∉ ids q.l := fun hx => by
        obtain ⟨x, hx1, hx2⟩ := List.mem_map.1 hx
        have := q.lt x hx1
        omega
      simp only [Int.cast_ofNat_Int, Int.reduceBEq, Int.reduceLT, Int.reduceLE, Int.reduceSub, Int.reduceAdd, Int.reduceNeg, Int.reduceEq, Int.reduceToNat, decide_true, decide_false, decide_eq_true_eq, beq_self_eq_true, bne_self_eq_false, List.reduceReplicate, List.length_set, List.length_replicate, List.length_cons, List.length_nil, List.set_cons_zero, List.set_cons_succ, Int.toNat_natCast, go_sem, reduceIte, Nat.reduceAdd, Nat.reduceMul, Nat.reduceSub, Nat.reduceEqDiff, Nat.reduceLeDiff, Nat.reduceLT, reduceCtorEq, Nat.succ_eq_add_one]
      refine goCall1 (b := 24) (fn29 L a2 5 hl (by omega)) ⟨rfl, ⟨rfl, rfl⟩, trivial⟩ rfl rfl rfl rfl ?_
      have w3 : nN L a2 5 ≤ L.length := nN_le w2
      generalize nN L a2 5 = a3 at w3 ⊢
      generalize nV L a2 5 = v
      by_cases hv0 : v = 0
      · have b0 : (v == 0) = true := by simp [hv0]
        simp only [b0, Int.cast_ofNat_Int, Int.reduceBEq, Int.reduceLT, Int.reduceLE, Int.reduceSub, Int.reduceAdd, Int.reduceNeg, Int.reduceEq, Int.reduceToNat, decide_true, decide_false, decide_eq_true_eq, beq_self_eq_true, bne_self_eq_false, List.reduceReplicate, List.length_set, List.length_replicate, List.length_cons, List.length_nil, List.set_cons_zero, List.set_cons_succ, Int.toNat_natCast, go_sem, reduceIte, Nat.reduceAdd, Nat.reduceMul, Nat.reduceSub, Nat.reduceEqDiff, Nat.reduceLeDiff, Nat.reduceLT, reduceCtorEq, Nat.succ_eq_add_one]
        by_cases hf : q.l.length = n
        · have hF := fn36 (rcs n q.h q.l) q.h q.l.length m
          rw [pushB_full rg (val_ok hm) hf] at hF
          have hff : ((q.l.length : Int) == (n : Int)) = true := by simp [hf]
          refine goCall0 hF rfl rfl ?_
          simp only [hff, Int.cast_ofNat_Int, Int.reduceBEq, Int.reduceLT, Int.reduceLE, Int.reduceSub, Int.reduceAdd, Int.reduceNeg, Int.reduceEq, Int.reduceToNat, decide_true, decide_false, decide_eq_true_eq, beq_self_eq_true, bne_self_eq_false, List.reduceReplicate, List.length_set, List.length_replicate, List.length_cons, List.length_nil, List.set_cons_zero, List.set_cons_succ, Int.toNat_natCast, go_sem, reduceIte, Nat.reduceAdd, Nat.reduceMul, Nat.reduceSub, Nat.reduceEqDiff, Nat.reduceLeDiff, Nat.reduceLT, reduceCtorEq, Nat.succ_eq_add_one]
          have rg' := rg
          have hr' : ((q.rows).drop (q.off)).take (q.l).length = encM (q.l) := hms
          have hr2' : (q.off) + (q.l).length ≤ (q.rows).length := hms2
          have hL := fn21 (rcs n (q.h) (q.l)) (q.h : Nat) ((q.l).length : Nat)
          rw [listA_ok rg'] at hL
          have hlen12 : (q.l).length ≤ 12 := by have := rg'.ll; omega
          refine goCall0 hL rfl rfl ?_
          simp only [Int.cast_ofNat_Int, Int.reduceBEq, Int.reduceLT, Int.reduceLE, Int.reduceSub, Int.reduceAdd, Int.reduceNeg, Int.reduceEq, Int.reduceToNat, decide_true, decide_false, decide_eq_true_eq, beq_self_eq_true, bne_self_eq_false, List.reduceReplicate, List.length_set, List.length_replicate, List.length_cons, List.length_nil, List.set_cons_zero, List.set_cons_succ, Int.toNat_natCast, go_sem, reduceIte, Nat.reduceAdd, Nat.reduceMul, Nat.reduceSub, Nat.reduceEqDiff, Nat.reduceLeDiff, Nat.reduceLT, reduceCtorEq, Nat.succ_eq_add_one]
          refine goCallS0 (fn23 (q.l) (by omega)) (by simp only [rvL, rv, hr', List.drop_zero, encM_len, encM_takeL, get, List.map_nil, List.not_mem_nil, not_false_eq_true, true_and, Int.cast_ofNat_Int, Int.reduceBEq, Int.reduceLT, Int.reduceLE, Int.reduceSub, Int.reduceAdd, Int.reduceNeg, Int.reduceEq, Int.reduceToNat, decide_true, decide_false, decide_eq_true_eq, beq_self_eq_true, bne_self_eq_false, List.reduceReplicate, List.length_set, List.length_replicate, List.length_cons, List.length_nil, List.set_cons_zero, List.set_cons_succ, Int.toNat_natCast, go_sem, reduceIte, Nat.reduceAdd, Nat.reduceMul, Nat.reduceSub, Nat.reduceEqDiff, Nat.reduceLeDiff, Nat.reduceLT, reduceCtorEq, Nat.succ_eq_add_one]; omega) rfl rfl ?_
          simp only [w64_succ (show q.i ≤ 100000 by omega), bneI, List.length_append, Nat.add_comm 1, Int.cast_ofNat_Int, Int.reduceBEq, Int.reduceLT, Int.reduceLE, Int.reduceSub, Int.reduceAdd, Int.reduceNeg, Int.reduceEq, Int.reduceToNat, decide_true, decide_false, decide_eq_true_eq, beq_self_eq_true, bne_self_eq_false, List.reduceReplicate, List.length_set, List.length_replicate, List.length_cons, List.length_nil, List.set_cons_zero, List.set_cons_succ, Int.toNat_natCast, go_sem, reduceIte, Nat.reduceAdd, Nat.reduceMul, Nat.reduceSub, Nat.reduceEqDiff, Nat.reduceLeDiff, Nat.reduceLT, reduceCtorEq, Nat.succ_eq_add_one]
          exact hB _ ⟨q.i + 1, q.h, q.l, q.off, q.rows, a3, by omega, rg', q.ok, (fun x hx => by have := q.lt x hx; omega), q.nd, hr', hr2', w3⟩ (by simp only; omega)
            (Wk.mk [(24, 24), (88, 88), (1500, 1500)] [] rfl rfl (by simp only [rpS, rvH, rvO, rvL, rv, go_sem, reduceIte, Nat.reduceAdd, Nat.reduceMul, Nat.reduceSub, Nat.reduceEqDiff, Nat.reduceLeDiff, Nat.reduceLT, reduceCtorEq, Nat.succ_eq_add_one]) (by simp only [rpS, go_sem, reduceIte, Nat.reduceAdd, Nat.reduceMul, Nat.reduceSub, Nat.reduceEqDiff, Nat.reduceLeDiff, Nat.reduceLT, reduceCtorEq, Nat.succ_eq_add_one]) (by simp only [rpS, rv, Int.cast_ofNat_Int, Int.reduceBEq, Int.reduceLT, Int.reduceLE, Int.reduceSub, Int.reduceAdd, Int.reduceNeg, Int.reduceEq, Int.reduceToNat, decide_true, decide_false, decide_eq_true_eq, beq_self_eq_true, bne_self_eq_false, List.reduceReplicate, List.length_set, List.length_replicate, List.length_cons, List.length_nil, List.set_cons_zero, List.set_cons_succ, Int.toNat_natCast, go_sem, reduceIte, Nat.reduceAdd, Nat.reduceMul, Nat.reduceSub, Nat.reduceEqDiff, Nat.reduceLeDiff, Nat.reduceLT, reduceCtorEq, Nat.succ_eq_add_one]))
        · have hF := fn36 (rcs n q.h q.l) q.h q.l.length m
          have hln : q.l.length < n := by omega
          rw [pushB_ok rg (val_ok hm) hln hni] at hF
          have hff : ((q.l.length : Int) == (n : Int)) = false := by simp; omega
          refine goCall0 hF rfl rfl ?_
          simp only [hff, hms, encM_len, Int.cast_ofNat_Int, Int.reduceBEq, Int.reduceLT, Int.reduceLE, Int.reduceSub, Int.reduceAdd, Int.reduceNeg, Int.reduceEq, Int.reduceToNat, decide_true, decide_false, decide_eq_true_eq, beq_self_eq_true, bne_self_eq_false, List.reduceReplicate, List.length_set, List.length_replicate, List.length_cons, List.length_nil, List.set_cons_zero, List.set_cons_succ, Int.toNat_natCast, go_sem, reduceIte, Nat.reduceAdd, Nat.reduceMul, Nat.reduceSub, Nat.reduceEqDiff, Nat.reduceLeDiff, Nat.reduceLT, reduceCtorEq, Nat.succ_eq_add_one]
          have hmax : q.l.length + 1 ≤ maxLen := Nat.le_trans (show _ ≤ 13 by omega) (by decide)
          refine ⟨⟨by omega, hmax, hms2⟩, ?_⟩
          have okp : ∀ x ∈ q.l ++ [m], x.ok := fun x hx => by
            rcases List.mem_append.1 hx with h | h
            · exact q.ok x h
            · simp at h; subst h; exact hm
          have ltp : ∀ x ∈ q.l ++ [m], x.id < ((q.i + 1 : Nat) : Int) := fun x hx => by
            rcases List.mem_append.1 hx with h | h
            · have := q.lt x h; omega
            · simp at h; subst h; omega
          have ndp : (ids (q.l ++ [m])).Nodup := by
            simp only [ids, List.map_append, List.map_cons, List.map_nil, List.nodup_append]
            refine ⟨q.nd, by simp, fun a ha b hb => ?_⟩
            simp only [List.mem_singleton] at hb
            subst hb
            intro e; subst e; exact hni ha
          have rgp : Rg n q.h (q.l ++ [m]) := Rg.of hn1 hn2 hhh (by simp; omega) okp ndp
          have rg' := rgp
          have hr' : ((encM (q.l ++ [m])).drop (0)).take (q.l ++ [m]).length = encM (q.l ++ [m]) := by rw [List.drop_zero, encM_takeL]
          have hr2' : (0) + (q.l ++ [m]).length ≤ (encM (q.l ++ [m])).length := by simp only [encM_len]; omega
          have hL := fn21 (rcs n (q.h) (q.l ++ [m])) (q.h : Nat) ((q.l ++ [m]).length : Nat)
          rw [listA_ok rg'] at hL
          have hlen12 : (q.l ++ [m]).length ≤ 12 := by have := rg'.ll; omega
          refine goCall0 hL rfl rfl ?_
          simp only [Int.cast_ofNat_Int, Int.reduceBEq, Int.reduceLT, Int.reduceLE, Int.reduceSub, Int.reduceAdd, Int.reduceNeg, Int.reduceEq, Int.reduceToNat, decide_true, decide_false, decide_eq_true_eq, beq_self_eq_true, bne_self_eq_false, List.reduceReplicate, List.length_set, List.length_replicate, List.length_cons, List.length_nil, List.set_cons_zero, List.set_cons_succ, Int.toNat_natCast, go_sem, reduceIte, Nat.reduceAdd, Nat.reduceMul, Nat.reduceSub, Nat.reduceEqDiff, Nat.reduceLeDiff, Nat.reduceLT, reduceCtorEq, Nat.succ_eq_add_one]
          refine goCallS0 (fn23 (q.l ++ [m]) (by omega)) (by simp only [rvL, rv, hr', hms, encM_app, encM_one, List.length_append, List.drop_zero, encM_len, encM_takeL, get, List.map_nil, List.not_mem_nil, not_false_eq_true, true_and, Int.cast_ofNat_Int, Int.reduceBEq, Int.reduceLT, Int.reduceLE, Int.reduceSub, Int.reduceAdd, Int.reduceNeg, Int.reduceEq, Int.reduceToNat, decide_true, decide_false, decide_eq_true_eq, beq_self_eq_true, bne_self_eq_false, List.reduceReplicate, List.length_set, List.length_replicate, List.length_cons, List.length_nil, List.set_cons_zero, List.set_cons_succ, Int.toNat_natCast, go_sem, reduceIte, Nat.reduceAdd, Nat.reduceMul, Nat.reduceSub, Nat.reduceEqDiff, Nat.reduceLeDiff, Nat.reduceLT, reduceCtorEq, Nat.succ_eq_add_one]; all_goals (rw [List.take_of_length_le (by rw [List.length_append, encM_len]; exact Nat.le_refl _)]; exact ⟨Nat.le_refl _, rfl⟩)) rfl rfl ?_
          simp only [w64_succ (show q.i ≤ 100000 by omega), bneI, List.length_append, Nat.add_comm 1, Int.cast_ofNat_Int, Int.reduceBEq, Int.reduceLT, Int.reduceLE, Int.reduceSub, Int.reduceAdd, Int.reduceNeg, Int.reduceEq, Int.reduceToNat, decide_true, decide_false, decide_eq_true_eq, beq_self_eq_true, bne_self_eq_false, List.reduceReplicate, List.length_set, List.length_replicate, List.length_cons, List.length_nil, List.set_cons_zero, List.set_cons_succ, Int.toNat_natCast, go_sem, reduceIte, Nat.reduceAdd, Nat.reduceMul, Nat.reduceSub, Nat.reduceEqDiff, Nat.reduceLeDiff, Nat.reduceLT, reduceCtorEq, Nat.succ_eq_add_one]
          exact hB _ ⟨q.i + 1, q.h, q.l ++ [m], 0, encM (q.l ++ [m]), a3, by omega, rg', okp, ltp, ndp, hr', hr2', w3⟩ (by simp only; omega)
            (Wk.mk [(24, 24), (88, 88), (1500, 2392)] [] rfl rfl (by simp only [rpS, rvH, rvO, rvL, rv, hms, encM_app, encM_one, List.length_append, go_sem, reduceIte, Nat.reduceAdd, Nat.reduceMul, Nat.reduceSub, Nat.reduceEqDiff, Nat.reduceLeDiff, Nat.reduceLT, reduceCtorEq, Nat.succ_eq_add_one]) (by simp only [rpS, go_sem, reduceIte, Nat.reduceAdd, Nat.reduceMul, Nat.reduceSub, Nat.reduceEqDiff, Nat.reduceLeDiff, Nat.reduceLT, reduceCtorEq, Nat.succ_eq_add_one]) (by simp only [rpS, rv, hms, encM_app, encM_one, List.length_append, Int.cast_ofNat_Int, Int.reduceBEq, Int.reduceLT, Int.reduceLE, Int.reduceSub, Int.reduceAdd, Int.reduceNeg, Int.reduceEq, Int.reduceToNat, decide_true, decide_false, decide_eq_true_eq, beq_self_eq_true, bne_self_eq_false, List.reduceReplicate, List.length_set, List.length_replicate, List.length_cons, List.length_nil, List.set_cons_zero, List.set_cons_succ, Int.toNat_natCast, go_sem, reduceIte, Nat.reduceAdd, Nat.reduceMul, Nat.reduceSub, Nat.reduceEqDiff, Nat.reduceLeDiff, Nat.reduceLT, reduceCtorEq, Nat.succ_eq_add_one]))
      have b0 : (v == 0) = false := by simp [hv0]
      by_cases hv1 : v = 1
      · have b1 : (v == 1) = true := by simp [hv1]
        simp only [b0, b1, Int.cast_ofNat_Int, Int.reduceBEq, Int.reduceLT, Int.reduceLE, Int.reduceSub, Int.reduceAdd, Int.reduceNeg, Int.reduceEq, Int.reduceToNat, decide_true, decide_false, decide_eq_true_eq, beq_self_eq_true, bne_self_eq_false, List.reduceReplicate, List.length_set, List.length_replicate, List.length_cons, List.length_nil, List.set_cons_zero, List.set_cons_succ, Int.toNat_natCast, go_sem, reduceIte, Nat.reduceAdd, Nat.reduceMul, Nat.reduceSub, Nat.reduceEqDiff, Nat.reduceLeDiff, Nat.reduceLT, reduceCtorEq, Nat.succ_eq_add_one]
        by_cases hf : q.l.length = n
        · have hF := fn36 (rcs n q.h q.l) q.h q.l.length m
          rw [pushB_full rg (val_ok hm) hf] at hF
          have hff : ((q.l.length : Int) == (n : Int)) = true := by simp [hf]
          refine goCall0 hF rfl rfl ?_
          simp only [hff, Int.cast_ofNat_Int, Int.reduceBEq, Int.reduceLT, Int.reduceLE, Int.reduceSub, Int.reduceAdd, Int.reduceNeg, Int.reduceEq, Int.reduceToNat, decide_true, decide_false, decide_eq_true_eq, beq_self_eq_true, bne_self_eq_false, List.reduceReplicate, List.length_set, List.length_replicate, List.length_cons, List.length_nil, List.set_cons_zero, List.set_cons_succ, Int.toNat_natCast, go_sem, reduceIte, Nat.reduceAdd, Nat.reduceMul, Nat.reduceSub, Nat.reduceEqDiff, Nat.reduceLeDiff, Nat.reduceLT, reduceCtorEq, Nat.succ_eq_add_one]
          have rg' := rg
          have hr' : ((q.rows).drop (q.off)).take (q.l).length = encM (q.l) := hms
          have hr2' : (q.off) + (q.l).length ≤ (q.rows).length := hms2
          have hL := fn21 (rcs n (q.h) (q.l)) (q.h : Nat) ((q.l).length : Nat)
          rw [listA_ok rg'] at hL
          have hlen12 : (q.l).length ≤ 12 := by have := rg'.ll; omega
          refine goCall0 hL rfl rfl ?_
          simp only [Int.cast_ofNat_Int, Int.reduceBEq, Int.reduceLT, Int.reduceLE, Int.reduceSub, Int.reduceAdd, Int.reduceNeg, Int.reduceEq, Int.reduceToNat, decide_true, decide_false, decide_eq_true_eq, beq_self_eq_true, bne_self_eq_false, List.reduceReplicate, List.length_set, List.length_replicate, List.length_cons, List.length_nil, List.set_cons_zero, List.set_cons_succ, Int.toNat_natCast, go_sem, reduceIte, Nat.reduceAdd, Nat.reduceMul, Nat.reduceSub, Nat.reduceEqDiff, Nat.reduceLeDiff, Nat.reduceLT, reduceCtorEq, Nat.succ_eq_add_one]
          refine goCallS0 (fn23 (q.l) (by omega)) (by simp only [rvL, rv, hr', List.drop_zero, encM_len, encM_takeL, get, List.map_nil, List.not_mem_nil, not_false_eq_true, true_and, Int.cast_ofNat_Int, Int.reduceBEq, Int.reduceLT, Int.reduceLE, Int.reduceSub, Int.reduceAdd, Int.reduceNeg, Int.reduceEq, Int.reduceToNat, decide_true, decide_false, decide_eq_true_eq, beq_self_eq_true, bne_self_eq_false, List.reduceReplicate, List.length_set, List.length_replicate, List.length_cons, List.length_nil, List.set_cons_zero, List.set_cons_succ, Int.toNat_natCast, go_sem, reduceIte, Nat.reduceAdd, Nat.reduceMul, Nat.reduceSub, Nat.reduceEqDiff, Nat.reduceLeDiff, Nat.reduceLT, reduceCtorEq, Nat.succ_eq_add_one]; omega) rfl rfl ?_
          simp only [w64_succ (show q.i ≤ 100000 by omega), bneI, List.length_append, Nat.add_comm 1, Int.cast_ofNat_Int, Int.reduceBEq, Int.reduceLT, Int.reduceLE, Int.reduceSub, Int.reduceAdd, Int.reduceNeg, Int.reduceEq, Int.reduceToNat, decide_true, decide_false, decide_eq_true_eq, beq_self_eq_true, bne_self_eq_false, List.reduceReplicate, List.length_set, List.length_replicate, List.length_cons, List.length_nil, List.set_cons_zero, List.set_cons_succ, Int.toNat_natCast, go_sem, reduceIte, Nat.reduceAdd, Nat.reduceMul, Nat.reduceSub, Nat.reduceEqDiff, Nat.reduceLeDiff, Nat.reduceLT, reduceCtorEq, Nat.succ_eq_add_one]
          exact hB _ ⟨q.i + 1, q.h, q.l, q.off, q.rows, a3, by omega, rg', q.ok, (fun x hx => by have := q.lt x hx; omega), q.nd, hr', hr2', w3⟩ (by simp only; omega)
            (Wk.mk [(24, 24), (88, 88), (1500, 1500)] [] rfl rfl (by simp only [rpS, rvH, rvO, rvL, rv, go_sem, reduceIte, Nat.reduceAdd, Nat.reduceMul, Nat.reduceSub, Nat.reduceEqDiff, Nat.reduceLeDiff, Nat.reduceLT, reduceCtorEq, Nat.succ_eq_add_one]) (by simp only [rpS, go_sem, reduceIte, Nat.reduceAdd, Nat.reduceMul, Nat.reduceSub, Nat.reduceEqDiff, Nat.reduceLeDiff, Nat.reduceLT, reduceCtorEq, Nat.succ_eq_add_one]) (by simp only [rpS, rv, Int.cast_ofNat_Int, Int.reduceBEq, Int.reduceLT, Int.reduceLE, Int.reduceSub, Int.reduceAdd, Int.reduceNeg, Int.reduceEq, Int.reduceToNat, decide_true, decide_false, decide_eq_true_eq, beq_self_eq_true, bne_self_eq_false, List.reduceReplicate, List.length_set, List.length_replicate, List.length_cons, List.length_nil, List.set_cons_zero, List.set_cons_succ, Int.toNat_natCast, go_sem, reduceIte, Nat.reduceAdd, Nat.reduceMul, Nat.reduceSub, Nat.reduceEqDiff, Nat.reduceLeDiff, Nat.reduceLT, reduceCtorEq, Nat.succ_eq_add_one]))
        · have hF := fn36 (rcs n q.h q.l) q.h q.l.length m
          have hln : q.l.length < n := by omega
          rw [pushB_ok rg (val_ok hm) hln hni] at hF
          have hff : ((q.l.length : Int) == (n : Int)) = false := by simp; omega
          refine goCall0 hF rfl rfl ?_
          simp only [hff, hms, encM_len, Int.cast_ofNat_Int, Int.reduceBEq, Int.reduceLT, Int.reduceLE, Int.reduceSub, Int.reduceAdd, Int.reduceNeg, Int.reduceEq, Int.reduceToNat, decide_true, decide_false, decide_eq_true_eq, beq_self_eq_true, bne_self_eq_false, List.reduceReplicate, List.length_set, List.length_replicate, List.length_cons, List.length_nil, List.set_cons_zero, List.set_cons_succ, Int.toNat_natCast, go_sem, reduceIte, Nat.reduceAdd, Nat.reduceMul, Nat.reduceSub, Nat.reduceEqDiff, Nat.reduceLeDiff, Nat.reduceLT, reduceCtorEq, Nat.succ_eq_add_one]
          have hmax : q.l.length + 1 ≤ maxLen := Nat.le_trans (show _ ≤ 13 by omega) (by decide)
          refine ⟨⟨by omega, hmax, hms2⟩, ?_⟩
          have okp : ∀ x ∈ q.l ++ [m], x.ok := fun x hx => by
            rcases List.mem_append.1 hx with h | h
            · exact q.ok x h
            · simp at h; subst h; exact hm
          have ltp : ∀ x ∈ q.l ++ [m], x.id < ((q.i + 1 : Nat) : Int) := fun x hx => by
            rcases List.mem_append.1 hx with h | h
            · have := q.lt x h; omega
            · simp at h; subst h; omega
          have ndp : (ids (q.l ++ [m])).Nodup := by
            simp only [ids, List.map_append, List.map_cons, List.map_nil, List.nodup_append]
            refine ⟨q.nd, by simp, fun a ha b hb => ?_⟩
            simp only [List.mem_singleton] at hb
            subst hb
            intro e; subst e; exact hni ha
          have rgp : Rg n q.h (q.l ++ [m]) := Rg.of hn1 hn2 hhh (by simp; omega) okp ndp
          have rg' := rgp
          have hr' : ((encM (q.l ++ [m])).drop (0)).take (q.l ++ [m]).length = encM (q.l ++ [m]) := by rw [List.drop_zero, encM_takeL]
          have hr2' : (0) + (q.l ++ [m]).length ≤ (encM (q.l ++ [m])).length := by simp only [encM_len]; omega
          have hL := fn21 (rcs n (q.h) (q.l ++ [m])) (q.h : Nat) ((q.l ++ [m]).length : Nat)
          rw [listA_ok rg'] at hL
          have hlen12 : (q.l ++ [m]).length ≤ 12 := by have := rg'.ll; omega
          refine goCall0 hL rfl rfl ?_
          simp only [Int.cast_ofNat_Int, Int.reduceBEq, Int.reduceLT, Int.reduceLE, Int.reduceSub, Int.reduceAdd, Int.reduceNeg, Int.reduceEq, Int.reduceToNat, decide_true, decide_false, decide_eq_true_eq, beq_self_eq_true, bne_self_eq_false, List.reduceReplicate, List.length_set, List.length_replicate, List.length_cons, List.length_nil, List.set_cons_zero, List.set_cons_succ, Int.toNat_natCast, go_sem, reduceIte, Nat.reduceAdd, Nat.reduceMul, Nat.reduceSub, Nat.reduceEqDiff, Nat.reduceLeDiff, Nat.reduceLT, reduceCtorEq, Nat.succ_eq_add_one]
          refine goCallS0 (fn23 (q.l ++ [m]) (by omega)) (by simp only [rvL, rv, hr', hms, encM_app, encM_one, List.length_append, List.drop_zero, encM_len, encM_takeL, get, List.map_nil, List.not_mem_nil, not_false_eq_true, true_and, Int.cast_ofNat_Int, Int.reduceBEq, Int.reduceLT, Int.reduceLE, Int.reduceSub, Int.reduceAdd, Int.reduceNeg, Int.reduceEq, Int.reduceToNat, decide_true, decide_false, decide_eq_true_eq, beq_self_eq_true, bne_self_eq_false, List.reduceReplicate, List.length_set, List.length_replicate, List.length_cons, List.length_nil, List.set_cons_zero, List.set_cons_succ, Int.toNat_natCast, go_sem, reduceIte, Nat.reduceAdd, Nat.reduceMul, Nat.reduceSub, Nat.reduceEqDiff, Nat.reduceLeDiff, Nat.reduceLT, reduceCtorEq, Nat.succ_eq_add_one]; all_goals (rw [List.take_of_length_le (by rw [List.length_append, encM_len]; exact Nat.le_refl _)]; exact ⟨Nat.le_refl _, rfl⟩)) rfl rfl ?_
          simp only [w64_succ (show q.i ≤ 100000 by omega), bneI, List.length_append, Nat.add_comm 1, Int.cast_ofNat_Int, Int.reduceBEq, Int.reduceLT, Int.reduceLE, Int.reduceSub, Int.reduceAdd, Int.reduceNeg, Int.reduceEq, Int.reduceToNat, decide_true, decide_false, decide_eq_true_eq, beq_self_eq_true, bne_self_eq_false, List.reduceReplicate, List.length_set, List.length_replicate, List.length_cons, List.length_nil, List.set_cons_zero, List.set_cons_succ, Int.toNat_natCast, go_sem, reduceIte, Nat.reduceAdd, Nat.reduceMul, Nat.reduceSub, Nat.reduceEqDiff, Nat.reduceLeDiff, Nat.reduceLT, reduceCtorEq, Nat.succ_eq_add_one]
          exact hB _ ⟨q.i + 1, q.h, q.l ++ [m], 0, encM (q.l ++ [m]), a3, by omega, rg', okp, ltp, ndp, hr', hr2', w3⟩ (by simp only; omega)
            (Wk.mk [(24, 24), (88, 88), (1500, 2408)] [] rfl rfl (by simp only [rpS, rvH, rvO, rvL, rv, hms, encM_app, encM_one, List.length_append, go_sem, reduceIte, Nat.reduceAdd, Nat.reduceMul, Nat.reduceSub, Nat.reduceEqDiff, Nat.reduceLeDiff, Nat.reduceLT, reduceCtorEq, Nat.succ_eq_add_one]) (by simp only [rpS, go_sem, reduceIte, Nat.reduceAdd, Nat.reduceMul, Nat.reduceSub, Nat.reduceEqDiff, Nat.reduceLeDiff, Nat.reduceLT, reduceCtorEq, Nat.succ_eq_add_one]) (by simp only [rpS, rv, hms, encM_app, encM_one, List.length_append, Int.cast_ofNat_Int, Int.reduceBEq, Int.reduceLT, Int.reduceLE, Int.reduceSub, Int.reduceAdd, Int.reduceNeg, Int.reduceEq, Int.reduceToNat, decide_true, decide_false, decide_eq_true_eq, beq_self_eq_true, bne_self_eq_false, List.reduceReplicate, List.length_set, List.length_replicate, List.length_cons, List.length_nil, List.set_cons_zero, List.set_cons_succ, Int.toNat_natCast, go_sem, reduceIte, Nat.reduceAdd, Nat.reduceMul, Nat.reduceSub, Nat.reduceEqDiff, Nat.reduceLeDiff, Nat.reduceLT, reduceCtorEq, Nat.succ_eq_add_one]))
      have b1 : (v == 1) = false := by simp [hv1]
      by_cases hv2 : v = 2
      · have b2 : (v == 2) = true := by simp [hv2]
        simp only [b0, b1, b2, Int.cast_ofNat_Int, Int.reduceBEq, Int.reduceLT, Int.reduceLE, Int.reduceSub, Int.reduceAdd, Int.reduceNeg, Int.reduceEq, Int.reduceToNat, decide_true, decide_false, decide_eq_true_eq, beq_self_eq_true, bne_self_eq_false, List.reduceReplicate, List.length_set, List.length_replicate, List.length_cons, List.length_nil, List.set_cons_zero, List.set_cons_succ, Int.toNat_natCast, go_sem, reduceIte, Nat.reduceAdd, Nat.reduceMul, Nat.reduceSub, Nat.reduceEqDiff, Nat.reduceLeDiff, Nat.reduceLT, reduceCtorEq, Nat.succ_eq_add_one]
        by_cases hf : q.l.length = n
        · have hF := fn37 (rcs n q.h q.l) q.h q.l.length m
          rw [pushF_full rg (val_ok hm) hf] at hF
          have hff : ((q.l.length : Int) == (n : Int)) = true := by simp [hf]
          refine goCall0 hF rfl rfl ?_
          simp only [hff, Int.cast_ofNat_Int, Int.reduceBEq, Int.reduceLT, Int.reduceLE, Int.reduceSub, Int.reduceAdd, Int.reduceNeg, Int.reduceEq, Int.reduceToNat, decide_true, decide_false, decide_eq_true_eq, beq_self_eq_true, bne_self_eq_false, List.reduceReplicate, List.length_set, List.length_replicate, List.length_cons, List.length_nil, List.set_cons_zero, List.set_cons_succ, Int.toNat_natCast, go_sem, reduceIte, Nat.reduceAdd, Nat.reduceMul, Nat.reduceSub, Nat.reduceEqDiff, Nat.reduceLeDiff, Nat.reduceLT, reduceCtorEq, Nat.succ_eq_add_one]
          have rg' := rg
          have hr' : ((q.rows).drop (q.off)).take (q.l).length = encM (q.l) := hms
          have hr2' : (q.off) + (q.l).length ≤ (q.rows).length := hms2
          have hL := fn21 (rcs n (q.h) (q.l)) (q.h : Nat) ((q.l).length : Nat)
          rw [listA_ok rg'] at hL
          have hlen12 : (q.l).length ≤ 12 := by have := rg'.ll; omega
          refine goCall0 hL rfl rfl ?_
          simp only [Int.cast_ofNat_Int, Int.reduceBEq, Int.reduceLT, Int.reduceLE, Int.reduceSub, Int.reduceAdd, Int.reduceNeg, Int.reduceEq, Int.reduceToNat, decide_true, decide_false, decide_eq_true_eq, beq_self_eq_true, bne_self_eq_false, List.reduceReplicate, List.length_set, List.length_replicate, List.length_cons, List.length_nil, List.set_cons_zero, List.set_cons_succ, Int.toNat_natCast, go_sem, reduceIte, Nat.reduceAdd, Nat.reduceMul, Nat.reduceSub, Nat.reduceEqDiff, Nat.reduceLeDiff, Nat.reduceLT, reduceCtorEq, Nat.succ_eq_add_one]
          refine goCallS0 (fn23 (q.l) (by omega)) (by simp only [rvL, rv, hr', List.drop_zero, encM_len, encM_takeL, get, List.map_nil, List.not_mem_nil, not_false_eq_true, true_and, Int.cast_ofNat_Int, Int.reduceBEq, Int.reduceLT, Int.reduceLE, Int.reduceSub, Int.reduceAdd, Int.reduceNeg, Int.reduceEq, Int.reduceToNat, decide_true, decide_false, decide_eq_true_eq, beq_self_eq_true, bne_self_eq_false, List.reduceReplicate, List.length_set, List.length_replicate, List.length_cons, List.length_nil, List.set_cons_zero, List.set_cons_succ, Int.toNat_natCast, go_sem, reduceIte, Nat.reduceAdd, Nat.reduceMul, Nat.reduceSub, Nat.reduceEqDiff, Nat.reduceLeDiff, Nat.reduceLT, reduceCtorEq, Nat.succ_eq_add_one]; omega) rfl rfl ?_
          simp only [w64_succ (show q.i ≤ 100000 by omega), bneI, List.length_append, Nat.add_comm 1, Int.cast_ofNat_Int, Int.reduceBEq, Int.reduceLT, Int.reduceLE, Int.reduceSub, Int.reduceAdd, Int.reduceNeg, Int.reduceEq, Int.reduceToNat, decide_true, decide_false, decide_eq_true_eq, beq_self_eq_true, bne_self_eq_false, List.reduceReplicate, List.length_set, List.length_replicate, List.length_cons, List.length_nil, List.set_cons_zero, List.set_cons_succ, Int.toNat_natCast, go_sem, reduceIte, Nat.reduceAdd, Nat.reduceMul, Nat.reduceSub, Nat.reduceEqDiff, Nat.reduceLeDiff, Nat.reduceLT, reduceCtorEq, Nat.succ_eq_add_one]
          exact hB _ ⟨q.i + 1, q.h, q.l, q.off, q.rows, a3, by omega, rg', q.ok, (fun x hx => by have := q.lt x hx; omega), q.nd, hr', hr2', w3⟩ (by simp only; omega)
            (Wk.mk [(24, 24), (88, 88), (1500, 1500)] [] rfl rfl (by simp only [rpS, rvH, rvO, rvL, rv, go_sem, reduceIte, Nat.reduceAdd, Nat.reduceMul, Nat.reduceSub, Nat.reduceEqDiff, Nat.reduceLeDiff, Nat.reduceLT, reduceCtorEq, Nat.succ_eq_add_one]) (by simp only [rpS, go_sem, reduceIte, Nat.reduceAdd, Nat.reduceMul, Nat.reduceSub, Nat.reduceEqDiff, Nat.reduceLeDiff, Nat.reduceLT, reduceCtorEq, Nat.succ_eq_add_one]) (by simp only [rpS, rv, Int.cast_ofNat_Int, Int.reduceBEq, Int.reduceLT, Int.reduceLE, Int.reduceSub, Int.reduceAdd, Int.reduceNeg, Int.reduceEq, Int.reduceToNat, decide_true, decide_false, decide_eq_true_eq, beq_self_eq_true, bne_self_eq_false, List.reduceReplicate, List.length_set, List.length_replicate, List.length_cons, List.length_nil, List.set_cons_zero, List.set_cons_succ, Int.toNat_natCast, go_sem, reduceIte, Nat.reduceAdd, Nat.reduceMul, Nat.reduceSub, Nat.reduceEqDiff, Nat.reduceLeDiff, Nat.reduceLT, reduceCtorEq, Nat.succ_eq_add_one]))
        · have hF := fn37 (rcs n q.h q.l) q.h q.l.length m
          have hln : q.l.length < n := by omega
          rw [pushF_ok rg (val_ok hm) hln hni] at hF
          have hff : ((q.l.length : Int) == (n : Int)) = false := by simp; omega
          refine goCall0 hF rfl rfl ?_
          simp only [hff, hms, encM_len, Int.cast_ofNat_Int, Int.reduceBEq, Int.reduceLT, Int.reduceLE, Int.reduceSub, Int.reduceAdd, Int.reduceNeg, Int.reduceEq, Int.reduceToNat, decide_true, decide_false, decide_eq_true_eq, beq_self_eq_true, bne_self_eq_false, List.reduceReplicate, List.length_set, List.length_replicate, List.length_cons, List.length_nil, List.set_cons_zero, List.set_cons_succ, Int.toNat_natCast, go_sem, reduceIte, Nat.reduceAdd, Nat.reduceMul, Nat.reduceSub, Nat.reduceEqDiff, Nat.reduceLeDiff, Nat.reduceLT, reduceCtorEq, Nat.succ_eq_add_one]
          have hmax : 1 + q.l.length ≤ maxLen := Nat.le_trans (show _ ≤ 13 by omega) (by decide)
          refine ⟨⟨hms2, by omega, hmax⟩, ?_⟩
          have okp : ∀ x ∈ m :: q.l, x.ok := fun x hx => by
            rcases List.mem_cons.1 hx with h | h
            · subst h; exact hm
            · exact q.ok x h
          have ltp : ∀ x ∈ m :: q.l, x.id < ((q.i + 1 : Nat) : Int) := fun x hx => by
            rcases List.mem_cons.1 hx with h | h
            · subst h; omega
            · have := q.lt x h; omega
          have ndp : (ids (m :: q.l)).Nodup := by
            simp only [ids, List.map_cons, List.nodup_cons]
            exact ⟨hni, q.nd⟩
          have rgp : Rg n ((q.h + (n - 1)) % n) (m :: q.l) := Rg.of hn1 hn2 (Nat.mod_lt _ (by omega)) (by simp; omega) okp ndp
          have hcons : encM (m :: q.l) = m.enc :: encM q.l := rfl
          have rg' := rgp
          have hr' : ((encM (m :: q.l)).drop (0)).take (m :: q.l).length = encM (m :: q.l) := by rw [List.drop_zero, encM_takeL]
          have hr2' : (0) + (m :: q.l).length ≤ (encM (m :: q.l)).length := by simp only [encM_len]; omega
          have hL := fn21 (rcs n ((q.h + (n - 1)) % n) (m :: q.l)) ((q.h + (n - 1)) % n : Nat) ((m :: q.l).length : Nat)
          rw [listA_ok rg'] at hL
          have hlen12 : (m :: q.l).length ≤ 12 := by have := rg'.ll; omega
          refine goCall0 hL rfl rfl ?_
          simp only [Int.cast_ofNat_Int, Int.reduceBEq, Int.reduceLT, Int.reduceLE, Int.reduceSub, Int.reduceAdd, Int.reduceNeg, Int.reduceEq, Int.reduceToNat, decide_true, decide_false, decide_eq_true_eq, beq_self_eq_true, bne_self_eq_false, List.reduceReplicate, List.length_set, List.length_replicate, List.length_cons, List.length_nil, List.set_cons_zero, List.set_cons_succ, Int.toNat_natCast, go_sem, reduceIte, Nat.reduceAdd, Nat.reduceMul, Nat.reduceSub, Nat.reduceEqDiff, Nat.reduceLeDiff, Nat.reduceLT, reduceCtorEq, Nat.succ_eq_add_one]
          refine goCallS0 (fn23 (m :: q.l) (by omega)) (by simp only [rvL, rv, hr', hms, hcons, Nat.add_comm 1, Nat.le_refl, List.drop_zero, encM_len, encM_takeL, get, List.map_nil, List.not_mem_nil, not_false_eq_true, true_and, Int.cast_ofNat_Int, Int.reduceBEq, Int.reduceLT, Int.reduceLE, Int.reduceSub, Int.reduceAdd, Int.reduceNeg, Int.reduceEq, Int.reduceToNat, decide_true, decide_false, decide_eq_true_eq, beq_self_eq_true, bne_self_eq_false, List.reduceReplicate, List.length_set, List.length_replicate, List.length_cons, List.length_nil, List.set_cons_zero, List.set_cons_succ, Int.toNat_natCast, go_sem, reduceIte, Nat.reduceAdd, Nat.reduceMul, Nat.reduceSub, Nat.reduceEqDiff, Nat.reduceLeDiff, Nat.reduceLT, reduceCtorEq, Nat.succ_eq_add_one]; all_goals (rw [List.take_of_length_le (by rw [List.length_append, encM_len]; exact Nat.le_refl _)])) rfl rfl ?_
          simp only [w64_succ (show q.i ≤ 100000 by omega), bneI, List.length_append, Nat.add_comm 1, Int.cast_ofNat_Int, Int.reduceBEq, Int.reduceLT, Int.reduceLE, Int.reduceSub, Int.reduceAdd, Int.reduceNeg, Int.reduceEq, Int.reduceToNat, decide_true, decide_false, decide_eq_true_eq, beq_self_eq_true, bne_self_eq_false, List.reduceReplicate, List.length_set, List.length_replicate, List.length_cons, List.length_nil, List.set_cons_zero, List.set_cons_succ, Int.toNat_natCast, go_sem, reduceIte, Nat.reduceAdd, Nat.reduceMul, Nat.reduceSub, Nat.reduceEqDiff, Nat.reduceLeDiff, Nat.reduceLT, reduceCtorEq, Nat.succ_eq_add_one]
          exact hB _ ⟨q.i + 1, (q.h + (n - 1)) % n, m :: q.l, 0, encM (m :: q.l), a3, by omega, rg', okp, ltp, ndp, hr', hr2', w3⟩ (by simp only; omega)
            (Wk.mk [(24, 24), (88, 88), (1500, 2424)] [] rfl rfl (by simp only [rpS, rvH, rvO, rvL, rv, hms, hcons, Nat.add_comm 1, Nat.le_refl, go_sem, reduceIte, Nat.reduceAdd, Nat.reduceMul, Nat.reduceSub, Nat.reduceEqDiff, Nat.reduceLeDiff, Nat.reduceLT, reduceCtorEq, Nat.succ_eq_add_one]) (by simp only [rpS, go_sem, reduceIte, Nat.reduceAdd, Nat.reduceMul, Nat.reduceSub, Nat.reduceEqDiff, Nat.reduceLeDiff, Nat.reduceLT, reduceCtorEq, Nat.succ_eq_add_one]) (by simp only [rpS, rv, hms, hcons, Nat.add_comm 1, Nat.le_refl, Int.cast_ofNat_Int, Int.reduceBEq, Int.reduceLT, Int.reduceLE, Int.reduceSub, Int.reduceAdd, Int.reduceNeg, Int.reduceEq, Int.reduceToNat, decide_true, decide_false, decide_eq_true_eq, beq_self_eq_true, bne_self_eq_false, List.reduceReplicate, List.length_set, List.length_replicate, List.length_cons, List.length_nil, List.set_cons_zero, List.set_cons_succ, Int.toNat_natCast, go_sem, reduceIte, Nat.reduceAdd, Nat.reduceMul, Nat.reduceSub, Nat.reduceEqDiff, Nat.reduceLeDiff, Nat.reduceLT, reduceCtorEq, Nat.succ_eq_add_one]))
      have b2 : (v == 2) = false := by simp [hv2]
      by_cases hv3 : v = 3
      · have b3 : (v == 3) = true := by simp [hv3]
        simp only [b0, b1, b2, b3, Int.cast_ofNat_Int, Int.reduceBEq, Int.reduceLT, Int.reduceLE, Int.reduceSub, Int.reduceAdd, Int.reduceNeg, Int.reduceEq, Int.reduceToNat, decide_true, decide_false, decide_eq_true_eq, beq_self_eq_true, bne_self_eq_false, List.reduceReplicate, List.length_set, List.length_replicate, List.length_cons, List.length_nil, List.set_cons_zero, List.set_cons_succ, Int.toNat_natCast, go_sem, reduceIte, Nat.reduceAdd, Nat.reduceMul, Nat.reduceSub, Nat.reduceEqDiff, Nat.reduceLeDiff, Nat.reduceLT, reduceCtorEq, Nat.succ_eq_add_one]
        have hc : q.l = [] ∨ ∃ m1 l1, q.l = m1 :: l1 := by cases q.l with | nil => exact .inl rfl | cons x y => exact .inr ⟨x, y, rfl⟩
        rcases hc with hnil | ⟨m1, l1, hcq⟩
        · have hF := fn38 (rcs n q.h q.l) q.h q.l.length
          have h0 : q.l.length = 0 := by rw [hnil]; rfl
          rw [hnil] at rg
          have hF2 : Fn Try.prog 38 [ringA (rcs n q.h q.l) q.h q.l.length] [] (.tup [ringA [] 0 0, .agg zM.enc, I 4]) [] [] := by
            rw [hnil] at hF ⊢; rw [popF_no rg] at hF; exact hF
          rw [← hnil] at rg
          refine goCall0 hF2 rfl rfl ?_
          have hgt : decide ((0 : Int) < (q.l.length : Int)) = false := by simp; omega
          simp only [hgt, Int.cast_ofNat_Int, Int.reduceBEq, Int.reduceLT, Int.reduceLE, Int.reduceSub, Int.reduceAdd, Int.reduceNeg, Int.reduceEq, Int.reduceToNat, decide_true, decide_false, decide_eq_true_eq, beq_self_eq_true, bne_self_eq_false, List.reduceReplicate, List.length_set, List.length_replicate, List.length_cons, List.length_nil, List.set_cons_zero, List.set_cons_succ, Int.toNat_natCast, go_sem, reduceIte, Nat.reduceAdd, Nat.reduceMul, Nat.reduceSub, Nat.reduceEqDiff, Nat.reduceLeDiff, Nat.reduceLT, reduceCtorEq, Nat.succ_eq_add_one]
          refine ⟨rfl, ?_⟩
          have rg' := rg
          have hr' : ((q.rows).drop (q.off)).take (q.l).length = encM (q.l) := hms
          have hr2' : (q.off) + (q.l).length ≤ (q.rows).length := hms2
          have hL := fn21 (rcs n (q.h) (q.l)) (q.h : Nat) ((q.l).length : Nat)
          rw [listA_ok rg'] at hL
          have hlen12 : (q.l).length ≤ 12 := by have := rg'.ll; omega
          refine goCall0 hL rfl rfl ?_
          simp only [Int.cast_ofNat_Int, Int.reduceBEq, Int.reduceLT, Int.reduceLE, Int.reduceSub, Int.reduceAdd, Int.reduceNeg, Int.reduceEq, Int.reduceToNat, decide_true, decide_false, decide_eq_true_eq, beq_self_eq_true, bne_self_eq_false, List.reduceReplicate, List.length_set, List.length_replicate, List.length_cons, List.length_nil, List.set_cons_zero, List.set_cons_succ, Int.toNat_natCast, go_sem, reduceIte, Nat.reduceAdd, Nat.reduceMul, Nat.reduceSub, Nat.reduceEqDiff, Nat.reduceLeDiff, Nat.reduceLT, reduceCtorEq, Nat.succ_eq_add_one]
          refine goCallS0 (fn23 (q.l) (by omega)) (by simp only [rvL, rv, hr', List.drop_zero, encM_len, encM_takeL, get, List.map_nil, List.not_mem_nil, not_false_eq_true, true_and, Int.cast_ofNat_Int, Int.reduceBEq, Int.reduceLT, Int.reduceLE, Int.reduceSub, Int.reduceAdd, Int.reduceNeg, Int.reduceEq, Int.reduceToNat, decide_true, decide_false, decide_eq_true_eq, beq_self_eq_true, bne_self_eq_false, List.reduceReplicate, List.length_set, List.length_replicate, List.length_cons, List.length_nil, List.set_cons_zero, List.set_cons_succ, Int.toNat_natCast, go_sem, reduceIte, Nat.reduceAdd, Nat.reduceMul, Nat.reduceSub, Nat.reduceEqDiff, Nat.reduceLeDiff, Nat.reduceLT, reduceCtorEq, Nat.succ_eq_add_one]; omega) rfl rfl ?_
          simp only [w64_succ (show q.i ≤ 100000 by omega), bneI, List.length_append, Nat.add_comm 1, Int.cast_ofNat_Int, Int.reduceBEq, Int.reduceLT, Int.reduceLE, Int.reduceSub, Int.reduceAdd, Int.reduceNeg, Int.reduceEq, Int.reduceToNat, decide_true, decide_false, decide_eq_true_eq, beq_self_eq_true, bne_self_eq_false, List.reduceReplicate, List.length_set, List.length_replicate, List.length_cons, List.length_nil, List.set_cons_zero, List.set_cons_succ, Int.toNat_natCast, go_sem, reduceIte, Nat.reduceAdd, Nat.reduceMul, Nat.reduceSub, Nat.reduceEqDiff, Nat.reduceLeDiff, Nat.reduceLT, reduceCtorEq, Nat.succ_eq_add_one]
          exact hB _ ⟨q.i + 1, q.h, q.l, q.off, q.rows, a3, by omega, rg', q.ok, (fun x hx => by have := q.lt x hx; omega), q.nd, hr', hr2', w3⟩ (by simp only; omega)
            (Wk.mk [(24, 24), (88, 88), (1500, 1500)] [] rfl rfl (by simp only [rpS, rvH, rvO, rvL, rv, go_sem, reduceIte, Nat.reduceAdd, Nat.reduceMul, Nat.reduceSub, Nat.reduceEqDiff, Nat.reduceLeDiff, Nat.reduceLT, reduceCtorEq, Nat.succ_eq_add_one]) (by simp only [rpS, go_sem, reduceIte, Nat.reduceAdd, Nat.reduceMul, Nat.reduceSub, Nat.reduceEqDiff, Nat.reduceLeDiff, Nat.reduceLT, reduceCtorEq, Nat.succ_eq_add_one]) (by simp only [rpS, rv, Int.cast_ofNat_Int, Int.reduceBEq, Int.reduceLT, Int.reduceLE, Int.reduceSub, Int.reduceAdd, Int.reduceNeg, Int.reduceEq, Int.reduceToNat, decide_true, decide_false, decide_eq_true_eq, beq_self_eq_true, bne_self_eq_false, List.reduceReplicate, List.length_set, List.length_replicate, List.length_cons, List.length_nil, List.set_cons_zero, List.set_cons_succ, Int.toNat_natCast, go_sem, reduceIte, Nat.reduceAdd, Nat.reduceMul, Nat.reduceSub, Nat.reduceEqDiff, Nat.reduceLeDiff, Nat.reduceLT, reduceCtorEq, Nat.succ_eq_add_one]))
        · have hF := fn38 (rcs n q.h q.l) q.h q.l.length
          have hpos : 0 < q.l.length := by rw [hcq]; simp
          have hF2 : Fn Try.prog 38 [ringA (rcs n q.h q.l) q.h q.l.length] [] (.tup [ringC n ((q.h + 1) % n) l1, .agg m1.enc, I 0]) [] [] := by
            rw [hcq] at hF rg ⊢; rw [popF_ok rg] at hF; exact hF
          have h0 : q.l[0] = m1 := by simp [hcq]
          have hn0 : nth q.rows q.off = m1.enc := by have := rows_nth hms hpos; rwa [h0, Nat.add_zero] at this
          refine goCall0 hF2 rfl rfl ?_
          have hgt : decide ((0 : Int) < (q.l.length : Int)) = true := by simp; omega
          have hl1 : l1.length = q.l.length - 1 := by rw [hcq]; simp
          have okp : ∀ x ∈ l1, x.ok := fun x hx => q.ok x (by rw [hcq]; simp [hx])
          have ltp : ∀ x ∈ l1, x.id < ((q.i + 1 : Nat) : Int) := fun x hx => by have := q.lt x (by rw [hcq]; simp [hx]); omega
          have ndp : (ids l1).Nodup := by have := q.nd; rw [hcq] at this; simp only [ids, List.map_cons, List.nodup_cons] at this; exact this.2
          have rgp : Rg n ((q.h + 1) % n) l1 := Rg.of hn1 hn2 (Nat.mod_lt _ (by omega)) (by omega) okp ndp
          have hrp : (q.rows.drop (q.off + 1)).take l1.length = encM l1 := by
            rw [← List.drop_drop, hl1, ← List.drop_take, hms, hcq]; rfl
          have hr2p : q.off + 1 + l1.length ≤ q.rows.length := by omega
          simp only [hgt, hn0, ← hl1, Int.cast_ofNat_Int, Int.reduceBEq, Int.reduceLT, Int.reduceLE, Int.reduceSub, Int.reduceAdd, Int.reduceNeg, Int.reduceEq, Int.reduceToNat, decide_true, decide_false, decide_eq_true_eq, beq_self_eq_true, bne_self_eq_false, List.reduceReplicate, List.length_set, List.length_replicate, List.length_cons, List.length_nil, List.set_cons_zero, List.set_cons_succ, Int.toNat_natCast, go_sem, reduceIte, Nat.reduceAdd, Nat.reduceMul, Nat.reduceSub, Nat.reduceEqDiff, Nat.reduceLeDiff, Nat.reduceLT, reduceCtorEq, Nat.succ_eq_add_one]
          refine ⟨by omega, by omega, rfl, ⟨by omega, by omega⟩, ?_⟩
          have rg' := rgp
          have hr' : ((q.rows).drop (q.off + 1)).take (l1).length = encM (l1) := hrp
          have hr2' : (q.off + 1) + (l1).length ≤ (q.rows).length := hr2p
          have hL := fn21 (rcs n ((q.h + 1) % n) (l1)) ((q.h + 1) % n : Nat) ((l1).length : Nat)
          rw [listA_ok rg'] at hL
          have hlen12 : (l1).length ≤ 12 := by have := rg'.ll; omega
          refine goCall0 hL rfl rfl ?_
          simp only [Int.cast_ofNat_Int, Int.reduceBEq, Int.reduceLT, Int.reduceLE, Int.reduceSub, Int.reduceAdd, Int.reduceNeg, Int.reduceEq, Int.reduceToNat, decide_true, decide_false, decide_eq_true_eq, beq_self_eq_true, bne_self_eq_false, List.reduceReplicate, List.length_set, List.length_replicate, List.length_cons, List.length_nil, List.set_cons_zero, List.set_cons_succ, Int.toNat_natCast, go_sem, reduceIte, Nat.reduceAdd, Nat.reduceMul, Nat.reduceSub, Nat.reduceEqDiff, Nat.reduceLeDiff, Nat.reduceLT, reduceCtorEq, Nat.succ_eq_add_one]
          refine goCallS0 (fn23 (l1) (by omega)) (by simp only [rvL, rv, hr', List.drop_zero, encM_len, encM_takeL, get, List.map_nil, List.not_mem_nil, not_false_eq_true, true_and, Int.cast_ofNat_Int, Int.reduceBEq, Int.reduceLT, Int.reduceLE, Int.reduceSub, Int.reduceAdd, Int.reduceNeg, Int.reduceEq, Int.reduceToNat, decide_true, decide_false, decide_eq_true_eq, beq_self_eq_true, bne_self_eq_false, List.reduceReplicate, List.length_set, List.length_replicate, List.length_cons, List.length_nil, List.set_cons_zero, List.set_cons_succ, Int.toNat_natCast, go_sem, reduceIte, Nat.reduceAdd, Nat.reduceMul, Nat.reduceSub, Nat.reduceEqDiff, Nat.reduceLeDiff, Nat.reduceLT, reduceCtorEq, Nat.succ_eq_add_one]; omega) rfl rfl ?_
          simp only [w64_succ (show q.i ≤ 100000 by omega), bneI, List.length_append, Nat.add_comm 1, Int.cast_ofNat_Int, Int.reduceBEq, Int.reduceLT, Int.reduceLE, Int.reduceSub, Int.reduceAdd, Int.reduceNeg, Int.reduceEq, Int.reduceToNat, decide_true, decide_false, decide_eq_true_eq, beq_self_eq_true, bne_self_eq_false, List.reduceReplicate, List.length_set, List.length_replicate, List.length_cons, List.length_nil, List.set_cons_zero, List.set_cons_succ, Int.toNat_natCast, go_sem, reduceIte, Nat.reduceAdd, Nat.reduceMul, Nat.reduceSub, Nat.reduceEqDiff, Nat.reduceLeDiff, Nat.reduceLT, reduceCtorEq, Nat.succ_eq_add_one]
          exact hB _ ⟨q.i + 1, (q.h + 1) % n, l1, q.off + 1, q.rows, a3, by omega, rg', okp, ltp, ndp, hr', hr2', w3⟩ (by simp only; omega)
            (Wk.mk [(24, 24), (88, 88), (1500, 1500)] [] rfl rfl (by simp only [rpS, rvH, rvO, rvL, rv, go_sem, reduceIte, Nat.reduceAdd, Nat.reduceMul, Nat.reduceSub, Nat.reduceEqDiff, Nat.reduceLeDiff, Nat.reduceLT, reduceCtorEq, Nat.succ_eq_add_one]) (by simp only [rpS, go_sem, reduceIte, Nat.reduceAdd, Nat.reduceMul, Nat.reduceSub, Nat.reduceEqDiff, Nat.reduceLeDiff, Nat.reduceLT, reduceCtorEq, Nat.succ_eq_add_one]) (by simp only [rpS, rv, Int.cast_ofNat_Int, Int.reduceBEq, Int.reduceLT, Int.reduceLE, Int.reduceSub, Int.reduceAdd, Int.reduceNeg, Int.reduceEq, Int.reduceToNat, decide_true, decide_false, decide_eq_true_eq, beq_self_eq_true, bne_self_eq_false, List.reduceReplicate, List.length_set, List.length_replicate, List.length_cons, List.length_nil, List.set_cons_zero, List.set_cons_succ, Int.toNat_natCast, go_sem, reduceIte, Nat.reduceAdd, Nat.reduceMul, Nat.reduceSub, Nat.reduceEqDiff, Nat.reduceLeDiff, Nat.reduceLT, reduceCtorEq, Nat.succ_eq_add_one]))
      have b3 : (v == 3) = false := by simp [hv3]
      simp only [b0, b1, b2, b3, Int.cast_ofNat_Int, Int.reduceBEq, Int.reduceLT, Int.reduceLE, Int.reduceSub, Int.reduceAdd, Int.reduceNeg, Int.reduceEq, Int.reduceToNat, decide_true, decide_false, decide_eq_true_eq, beq_self_eq_true, bne_self_eq_false, List.reduceReplicate, List.length_set, List.length_replicate, List.length_cons, List.length_nil, List.set_cons_zero, List.set_cons_succ, Int.toNat_natCast, go_sem, reduceIte, Nat.reduceAdd, Nat.reduceMul, Nat.reduceSub, Nat.reduceEqDiff, Nat.reduceLeDiff, Nat.reduceLT, reduceCtorEq, Nat.succ_eq_add_one]
      have hc : q.l = [] ∨ 0 < q.l.length := by cases q.l with | nil => exact .inl rfl | cons x y => exact .inr (by simp)
      rcases hc with hnil | hpos
      · have hF := fn39 (rcs n q.h q.l) q.h q.l.length
        have h0 : q.l.length = 0 := by rw [hnil]; rfl
        rw [hnil] at rg
        have hF2 : Fn Try.prog 39 [ringA (rcs n q.h q.l) q.h q.l.length] [] (.tup [ringA [] 0 0, .agg zM.enc, I 4]) [] [] := by
          rw [hnil] at hF ⊢; rw [popB_no rg] at hF; exact hF
        rw [← hnil] at rg
        refine goCall0 hF2 rfl rfl ?_
        have hgt : decide ((0 : Int) < (q.l.length : Int)) = false := by simp; omega
        simp only [hgt, Int.cast_ofNat_Int, Int.reduceBEq, Int.reduceLT, Int.reduceLE, Int.reduceSub, Int.reduceAdd, Int.reduceNeg, Int.reduceEq, Int.reduceToNat, decide_true, decide_false, decide_eq_true_eq, beq_self_eq_true, bne_self_eq_false, List.reduceReplicate, List.length_set, List.length_replicate, List.length_cons, List.length_nil, List.set_cons_zero, List.set_cons_succ, Int.toNat_natCast, go_sem, reduceIte, Nat.reduceAdd, Nat.reduceMul, Nat.reduceSub, Nat.reduceEqDiff, Nat.reduceLeDiff, Nat.reduceLT, reduceCtorEq, Nat.succ_eq_add_one]
        refine ⟨rfl, ?_⟩
        have rg' := rg
        have hr' : ((q.rows).drop (q.off)).take (q.l).length = encM (q.l) := hms
        have hr2' : (q.off) + (q.l).length ≤ (q.rows).length := hms2
        have hL := fn21 (rcs n (q.h) (q.l)) (q.h : Nat) ((q.l).length : Nat)
        rw [listA_ok rg'] at hL
        have hlen12 : (q.l).length ≤ 12 := by have := rg'.ll; omega
        refine goCall0 hL rfl rfl ?_
        simp only [Int.cast_ofNat_Int, Int.reduceBEq, Int.reduceLT, Int.reduceLE, Int.reduceSub, Int.reduceAdd, Int.reduceNeg, Int.reduceEq, Int.reduceToNat, decide_true, decide_false, decide_eq_true_eq, beq_self_eq_true, bne_self_eq_false, List.reduceReplicate, List.length_set, List.length_replicate, List.length_cons, List.length_nil, List.set_cons_zero, List.set_cons_succ, Int.toNat_natCast, go_sem, reduceIte, Nat.reduceAdd, Nat.reduceMul, Nat.reduceSub, Nat.reduceEqDiff, Nat.reduceLeDiff, Nat.reduceLT, reduceCtorEq, Nat.succ_eq_add_one]
        refine goCallS0 (fn23 (q.l) (by omega)) (by simp only [rvL, rv, hr', List.drop_zero, encM_len, encM_takeL, get, List.map_nil, List.not_mem_nil, not_false_eq_true, true_and, Int.cast_ofNat_Int, Int.reduceBEq, Int.reduceLT, Int.reduceLE, Int.reduceSub, Int.reduceAdd, Int.reduceNeg, Int.reduceEq, Int.reduceToNat, decide_true, decide_false, decide_eq_true_eq, beq_self_eq_true, bne_self_eq_false, List.reduceReplicate, List.length_set, List.length_replicate, List.length_cons, List.length_nil, List.set_cons_zero, List.set_cons_succ, Int.toNat_natCast, go_sem, reduceIte, Nat.reduceAdd, Nat.reduceMul, Nat.reduceSub, Nat.reduceEqDiff, Nat.reduceLeDiff, Nat.reduceLT, reduceCtorEq, Nat.succ_eq_add_one]; omega) rfl rfl ?_
        simp only [w64_succ (show q.i ≤ 100000 by omega), bneI, List.length_append, Nat.add_comm 1, Int.cast_ofNat_Int, Int.reduceBEq, Int.reduceLT, Int.reduceLE, Int.reduceSub, Int.reduceAdd, Int.reduceNeg, Int.reduceEq, Int.reduceToNat, decide_true, decide_false, decide_eq_true_eq, beq_self_eq_true, bne_self_eq_false, List.reduceReplicate, List.length_set, List.length_replicate, List.length_cons, List.length_nil, List.set_cons_zero, List.set_cons_succ, Int.toNat_natCast, go_sem, reduceIte, Nat.reduceAdd, Nat.reduceMul, Nat.reduceSub, Nat.reduceEqDiff, Nat.reduceLeDiff, Nat.reduceLT, reduceCtorEq, Nat.succ_eq_add_one]
        exact hB _ ⟨q.i + 1, q.h, q.l, q.off, q.rows, a3, by omega, rg', q.ok, (fun x hx => by have := q.lt x hx; omega), q.nd, hr', hr2', w3⟩ (by simp only; omega)
          (Wk.mk [(24, 24), (88, 88), (1500, 1500)] [] rfl rfl (by simp only [rpS, rvH, rvO, rvL, rv, go_sem, reduceIte, Nat.reduceAdd, Nat.reduceMul, Nat.reduceSub, Nat.reduceEqDiff, Nat.reduceLeDiff, Nat.reduceLT, reduceCtorEq, Nat.succ_eq_add_one]) (by simp only [rpS, go_sem, reduceIte, Nat.reduceAdd, Nat.reduceMul, Nat.reduceSub, Nat.reduceEqDiff, Nat.reduceLeDiff, Nat.reduceLT, reduceCtorEq, Nat.succ_eq_add_one]) (by simp only [rpS, rv, Int.cast_ofNat_Int, Int.reduceBEq, Int.reduceLT, Int.reduceLE, Int.reduceSub, Int.reduceAdd, Int.reduceNeg, Int.reduceEq, Int.reduceToNat, decide_true, decide_false, decide_eq_true_eq, beq_self_eq_true, bne_self_eq_false, List.reduceReplicate, List.length_set, List.length_replicate, List.length_cons, List.length_nil, List.set_cons_zero, List.set_cons_succ, Int.toNat_natCast, go_sem, reduceIte, Nat.reduceAdd, Nat.reduceMul, Nat.reduceSub, Nat.reduceEqDiff, Nat.reduceLeDiff, Nat.reduceLT, reduceCtorEq, Nat.succ_eq_add_one]))
      · have hF := fn39 (rcs n q.h q.l) q.h q.l.length
        rw [popB_ok rg hpos, gt_in (show q.l.length - 1 < q.l.length by omega)] at hF
        have hn0 : nth q.rows (q.off + (q.l.length - 1)) = (q.l[q.l.length - 1]).enc := rows_nth hms (by omega)
        refine goCall0 hF rfl rfl ?_
        have hgt : decide ((0 : Int) < (q.l.length : Int)) = true := by simp; omega
        have hw : IntKind.i64.wrap ((q.l.length : Int) - 1) = ((q.l.length - 1 : Nat) : Int) := by rw [w64 (by omega)]; omega
        have hlt : (q.l.take (q.l.length - 1)).length = q.l.length - 1 := by simp
        have okp : ∀ x ∈ q.l.take (q.l.length - 1), x.ok := fun x hx => q.ok x (List.mem_of_mem_take hx)
        have ltp : ∀ x ∈ q.l.take (q.l.length - 1), x.id < ((q.i + 1 : Nat) : Int) := fun x hx => by have := q.lt x (List.mem_of_mem_take hx); omega
        have ndp : (ids (q.l.take (q.l.length - 1))).Nodup := by
          have e : ids (q.l.take (q.l.length - 1)) = (ids q.l).take (q.l.length - 1) := by simp [ids, List.map_take]
          rw [e]; exact q.nd.sublist (List.take_sublist _ _)
        have rgp : Rg n q.h (q.l.take (q.l.length - 1)) := Rg.of hn1 hn2 hhh (by omega) okp ndp
        have hrp : (q.rows.drop q.off).take (q.l.take (q.l.length - 1)).length = encM (q.l.take (q.l.length - 1)) := by
          rw [hlt, ← encM_take, ← hms, List.take_take, Nat.min_eq_left (by omega)]
        have hr2p : q.off + (q.l.take (q.l.length - 1)).length ≤ q.rows.length := by omega
        have hrq := hrp
        rw [hlt] at hrq
        simp only [hgt, hw, hn0, hlt, Int.toNat_natCast, Nat.sub_zero, Int.cast_ofNat_Int, Int.reduceBEq, Int.reduceLT, Int.reduceLE, Int.reduceSub, Int.reduceAdd, Int.reduceNeg, Int.reduceEq, Int.reduceToNat, decide_true, decide_false, decide_eq_true_eq, beq_self_eq_true, bne_self_eq_false, List.reduceReplicate, List.length_set, List.length_replicate, List.length_cons, List.length_nil, List.set_cons_zero, List.set_cons_succ, Int.toNat_natCast, go_sem, reduceIte, Nat.reduceAdd, Nat.reduceMul, Nat.reduceSub, Nat.reduceEqDiff, Nat.reduceLeDiff, Nat.reduceLT, reduceCtorEq, Nat.succ_eq_add_one]
        refine ⟨by omega, by omega, rfl, ⟨by omega, by omega⟩, ?_⟩
        have rg' := rgp
        have hr' : ((q.rows).drop (q.off)).take (q.l.take (q.l.length - 1)).length = encM (q.l.take (q.l.length - 1)) := hrp
        have hr2' : (q.off) + (q.l.take (q.l.length - 1)).length ≤ (q.rows).length := hr2p
        have hL := fn21 (rcs n (q.h) (q.l.take (q.l.length - 1))) (q.h : Nat) ((q.l.take (q.l.length - 1)).length : Nat)
        rw [listA_ok rg'] at hL
        rw [hlt] at hL
        have hlen12 : (q.l.take (q.l.length - 1)).length ≤ 12 := by have := rg'.ll; omega
        refine goCall0 hL rfl rfl ?_
        simp only [Int.cast_ofNat_Int, Int.reduceBEq, Int.reduceLT, Int.reduceLE, Int.reduceSub, Int.reduceAdd, Int.reduceNeg, Int.reduceEq, Int.reduceToNat, decide_true, decide_false, decide_eq_true_eq, beq_self_eq_true, bne_self_eq_false, List.reduceReplicate, List.length_set, List.length_replicate, List.length_cons, List.length_nil, List.set_cons_zero, List.set_cons_succ, Int.toNat_natCast, go_sem, reduceIte, Nat.reduceAdd, Nat.reduceMul, Nat.reduceSub, Nat.reduceEqDiff, Nat.reduceLeDiff, Nat.reduceLT, reduceCtorEq, Nat.succ_eq_add_one]
        refine goCallS0 (fn23 (q.l.take (q.l.length - 1)) (by omega)) (by simp only [rvL, rv, hr', hlt, hrq, List.drop_zero, encM_len, encM_takeL, get, List.map_nil, List.not_mem_nil, not_false_eq_true, true_and, Int.cast_ofNat_Int, Int.reduceBEq, Int.reduceLT, Int.reduceLE, Int.reduceSub, Int.reduceAdd, Int.reduceNeg, Int.reduceEq, Int.reduceToNat, decide_true, decide_false, decide_eq_true_eq, beq_self_eq_true, bne_self_eq_false, List.reduceReplicate, List.length_set, List.length_replicate, List.length_cons, List.length_nil, List.set_cons_zero, List.set_cons_succ, Int.toNat_natCast, go_sem, reduceIte, Nat.reduceAdd, Nat.reduceMul, Nat.reduceSub, Nat.reduceEqDiff, Nat.reduceLeDiff, Nat.reduceLT, reduceCtorEq, Nat.succ_eq_add_one]; omega) rfl rfl ?_
        simp only [w64_succ (show q.i ≤ 100000 by omega), bneI, List.length_append, Nat.add_comm 1, Int.cast_ofNat_Int, Int.reduceBEq, Int.reduceLT, Int.reduceLE, Int.reduceSub, Int.reduceAdd, Int.reduceNeg, Int.reduceEq, Int.reduceToNat, decide_true, decide_false, decide_eq_true_eq, beq_self_eq_true, bne_self_eq_false, List.reduceReplicate, List.length_set, List.length_replicate, List.length_cons, List.length_nil, List.set_cons_zero, List.set_cons_succ, Int.toNat_natCast, go_sem, reduceIte, Nat.reduceAdd, Nat.reduceMul, Nat.reduceSub, Nat.reduceEqDiff, Nat.reduceLeDiff, Nat.reduceLT, reduceCtorEq, Nat.succ_eq_add_one]
        exact hB _ ⟨q.i + 1, q.h, q.l.take (q.l.length - 1), q.off, q.rows, a3, by omega, rg', okp, ltp, ndp, hr', hr2', w3⟩ (by simp only; omega)
          (Wk.mk [(24, 24), (88, 88), (1500, 1500)] [] rfl rfl (by simp only [rpS, rvH, rvO, rvL, rv, hlt, hrq, go_sem, reduceIte, Nat.reduceAdd, Nat.reduceMul, Nat.reduceSub, Nat.reduceEqDiff, Nat.reduceLeDiff, Nat.reduceLT, reduceCtorEq, Nat.succ_eq_add_one]) (by simp only [rpS, go_sem, reduceIte, Nat.reduceAdd, Nat.reduceMul, Nat.reduceSub, Nat.reduceEqDiff, Nat.reduceLeDiff, Nat.reduceLT, reduceCtorEq, Nat.succ_eq_add_one]) (by simp only [rpS, rv, hlt, hrq, Int.cast_ofNat_Int, Int.reduceBEq, Int.reduceLT, Int.reduceLE, Int.reduceSub, Int.reduceAdd, Int.reduceNeg, Int.reduceEq, Int.reduceToNat, decide_true, decide_false, decide_eq_true_eq, beq_self_eq_true, bne_self_eq_false, List.reduceReplicate, List.length_set, List.length_replicate, List.length_cons, List.length_nil, List.set_cons_zero, List.set_cons_succ, Int.toNat_natCast, go_sem, reduceIte, Nat.reduceAdd, Nat.reduceMul, Nat.reduceSub, Nat.reduceEqDiff, Nat.reduceLeDiff, Nat.reduceLT, reduceCtorEq, Nat.succ_eq_add_one]))
    · simp only [h3, h4, decide_false, Int.cast_ofNat_Int, Int.reduceBEq, Int.reduceLT, Int.reduceLE, Int.reduceSub, Int.reduceAdd, Int.reduceNeg, Int.reduceEq, Int.reduceToNat, decide_true, decide_false, decide_eq_true_eq, beq_self_eq_true, bne_self_eq_false, List.reduceReplicate, List.length_set, List.length_replicate, List.length_cons, List.length_nil, List.set_cons_zero, List.set_cons_succ, Int.toNat_natCast, go_sem, reduceIte, Nat.reduceAdd, Nat.reduceMul, Nat.reduceSub, Nat.reduceEqDiff, Nat.reduceLeDiff, Nat.reduceLT, reduceCtorEq, Nat.succ_eq_add_one]
      refine goCall1 (b := 24) (fn28 L q.a) ⟨rfl, trivial⟩ rfl rfl rfl rfl ?_
      simp only [Int.cast_ofNat_Int, Int.reduceBEq, Int.reduceLT, Int.reduceLE, Int.reduceSub, Int.reduceAdd, Int.reduceNeg, Int.reduceEq, Int.reduceToNat, decide_true, decide_false, decide_eq_true_eq, beq_self_eq_true, bne_self_eq_false, List.reduceReplicate, List.length_set, List.length_replicate, List.length_cons, List.length_nil, List.set_cons_zero, List.set_cons_succ, Int.toNat_natCast, go_sem, reduceIte, Nat.reduceAdd, Nat.reduceMul, Nat.reduceSub, Nat.reduceEqDiff, Nat.reduceLeDiff, Nat.reduceLT, reduceCtorEq, Nat.succ_eq_add_one]
      refine goIf_split (fun h7 => ?_) (fun h7 => ?_) <;> simp only [h7, Int.cast_ofNat_Int, Int.reduceBEq, Int.reduceLT, Int.reduceLE, Int.reduceSub, Int.reduceAdd, Int.reduceNeg, Int.reduceEq, Int.reduceToNat, decide_true, decide_false, decide_eq_true_eq, beq_self_eq_true, bne_self_eq_false, List.reduceReplicate, List.length_set, List.length_replicate, List.length_cons, List.length_nil, List.set_cons_zero, List.set_cons_succ, Int.toNat_natCast, go_sem, reduceIte, Nat.reduceAdd, Nat.reduceMul, Nat.reduceSub, Nat.reduceEqDiff, Nat.reduceLeDiff, Nat.reduceLT, reduceCtorEq, Nat.succ_eq_add_one]
      rotate_left
      · refine goCall0 fn25 rfl rfl ?_
        simp only [go_sem, reduceIte, Nat.reduceAdd, Nat.reduceMul, Nat.reduceSub, Nat.reduceEqDiff, Nat.reduceLeDiff, Nat.reduceLT, reduceCtorEq, Nat.succ_eq_add_one]
        exact Fin.eq0 _ rfl rfl rfl rfl
      refine goCall1 (b := 24) (fn30 L q.a q.i 0 65535 hl) ⟨rfl, ⟨rfl, rfl⟩, ⟨rfl, rfl⟩, ⟨rfl, rfl⟩, trivial⟩ rfl rfl rfl rfl ?_
      have hm := msgV_ok L q.a (id := q.i) (lo := 0) (hi := 65535) (by omega) (by omega) (by omega) (by omega) (by omega)
      have hid : (msgV L q.a q.i 0 65535).id = q.i := rfl
      have w2 := msgN_le q.ha
      generalize msgV L q.a q.i 0 65535 = m at hm hid ⊢
      generalize msgN L q.a = a2 at w2 ⊢
      have hni : m.id ∉ ids q.l := fun hx => by
        obtain ⟨x, hx1, hx2⟩ := List.mem_map.1 hx
        have := q.lt x hx1
        omega
      simp only [Int.cast_ofNat_Int, Int.reduceBEq, Int.reduceLT, Int.reduceLE, Int.reduceSub, Int.reduceAdd, Int.reduceNeg, Int.reduceEq, Int.reduceToNat, decide_true, decide_false, decide_eq_true_eq, beq_self_eq_true, bne_self_eq_false, List.reduceReplicate, List.length_set, List.length_replicate, List.length_cons, List.length_nil, List.set_cons_zero, List.set_cons_succ, Int.toNat_natCast, go_sem, reduceIte, Nat.reduceAdd, Nat.reduceMul, Nat.reduceSub, Nat.reduceEqDiff, Nat.reduceLeDiff, Nat.reduceLT, reduceCtorEq, Nat.succ_eq_add_one]
      refine goCall1 (b := 24) (fn29 L a2 5 hl (by omega)) ⟨rfl, ⟨rfl, rfl⟩, trivial⟩ rfl rfl rfl rfl ?_
      have w3 : nN L a2 5 ≤ L.length := nN_le w2
      generalize nN L a2 5 = a3 at w3 ⊢
      generalize nV L a2 5 = v
      by_cases hv0 : v = 0
      · have b0 : (v == 0) = true := by simp [hv0]
        simp only [b0, Int.cast_ofNat_Int, Int.reduceBEq, Int.reduceLT, Int.reduceLE, Int.reduceSub, Int.reduceAdd, Int.reduceNeg, Int.reduceEq, Int.reduceToNat, decide_true, decide_false, decide_eq_true_eq, beq_self_eq_true, bne_self_eq_false, List.reduceReplicate, List.length_set, List.length_replicate, List.length_cons, List.length_nil, List.set_cons_zero, List.set_cons_succ, Int.toNat_natCast, go_sem, reduceIte, Nat.reduceAdd, Nat.reduceMul, Nat.reduceSub, Nat.reduceEqDiff, Nat.reduceLeDiff, Nat.reduceLT, reduceCtorEq, Nat.succ_eq_add_one]
        by_cases hf : q.l.length = n
        · have hF := fn36 (rcs n q.h q.l) q.h q.l.length m
          rw [pushB_full rg (val_ok hm) hf] at hF
          have hff : ((q.l.length : Int) == (n : Int)) = true := by simp [hf]
          refine goCall0 hF rfl rfl ?_
          simp only [hff, Int.cast_ofNat_Int, Int.reduceBEq, Int.reduceLT, Int.reduceLE, Int.reduceSub, Int.reduceAdd, Int.reduceNeg, Int.reduceEq, Int.reduceToNat, decide_true, decide_false, decide_eq_true_eq, beq_self_eq_true, bne_self_eq_false, List.reduceReplicate, List.length_set, List.length_replicate, List.length_cons, List.length_nil, List.set_cons_zero, List.set_cons_succ, Int.toNat_natCast, go_sem, reduceIte, Nat.reduceAdd, Nat.reduceMul, Nat.reduceSub, Nat.reduceEqDiff, Nat.reduceLeDiff, Nat.reduceLT, reduceCtorEq, Nat.succ_eq_add_one]
          have rg' := rg
          have hr' : ((q.rows).drop (q.off)).take (q.l).length = encM (q.l) := hms
          have hr2' : (q.off) + (q.l).length ≤ (q.rows).length := hms2
          have hL := fn21 (rcs n (q.h) (q.l)) (q.h : Nat) ((q.l).length : Nat)
          rw [listA_ok rg'] at hL
          have hlen12 : (q.l).length ≤ 12 := by have := rg'.ll; omega
          refine goCall0 hL rfl rfl ?_
          simp only [Int.cast_ofNat_Int, Int.reduceBEq, Int.reduceLT, Int.reduceLE, Int.reduceSub, Int.reduceAdd, Int.reduceNeg, Int.reduceEq, Int.reduceToNat, decide_true, decide_false, decide_eq_true_eq, beq_self_eq_true, bne_self_eq_false, List.reduceReplicate, List.length_set, List.length_replicate, List.length_cons, List.length_nil, List.set_cons_zero, List.set_cons_succ, Int.toNat_natCast, go_sem, reduceIte, Nat.reduceAdd, Nat.reduceMul, Nat.reduceSub, Nat.reduceEqDiff, Nat.reduceLeDiff, Nat.reduceLT, reduceCtorEq, Nat.succ_eq_add_one]
          refine goCallS0 (fn23 (q.l) (by omega)) (by simp only [rvL, rv, hr', List.drop_zero, encM_len, encM_takeL, get, List.map_nil, List.not_mem_nil, not_false_eq_true, true_and, Int.cast_ofNat_Int, Int.reduceBEq, Int.reduceLT, Int.reduceLE, Int.reduceSub, Int.reduceAdd, Int.reduceNeg, Int.reduceEq, Int.reduceToNat, decide_true, decide_false, decide_eq_true_eq, beq_self_eq_true, bne_self_eq_false, List.reduceReplicate, List.length_set, List.length_replicate, List.length_cons, List.length_nil, List.set_cons_zero, List.set_cons_succ, Int.toNat_natCast, go_sem, reduceIte, Nat.reduceAdd, Nat.reduceMul, Nat.reduceSub, Nat.reduceEqDiff, Nat.reduceLeDiff, Nat.reduceLT, reduceCtorEq, Nat.succ_eq_add_one]; omega) rfl rfl ?_
          simp only [w64_succ (show q.i ≤ 100000 by omega), bneI, List.length_append, Nat.add_comm 1, Int.cast_ofNat_Int, Int.reduceBEq, Int.reduceLT, Int.reduceLE, Int.reduceSub, Int.reduceAdd, Int.reduceNeg, Int.reduceEq, Int.reduceToNat, decide_true, decide_false, decide_eq_true_eq, beq_self_eq_true, bne_self_eq_false, List.reduceReplicate, List.length_set, List.length_replicate, List.length_cons, List.length_nil, List.set_cons_zero, List.set_cons_succ, Int.toNat_natCast, go_sem, reduceIte, Nat.reduceAdd, Nat.reduceMul, Nat.reduceSub, Nat.reduceEqDiff, Nat.reduceLeDiff, Nat.reduceLT, reduceCtorEq, Nat.succ_eq_add_one]
          exact hB _ ⟨q.i + 1, q.h, q.l, q.off, q.rows, a3, by omega, rg', q.ok, (fun x hx => by have := q.lt x hx; omega), q.nd, hr', hr2', w3⟩ (by simp only; omega)
            (Wk.mk [(24, 24), (88, 88), (1500, 1500)] [] rfl rfl (by simp only [rpS, rvH, rvO, rvL, rv, go_sem, reduceIte, Nat.reduceAdd, Nat.reduceMul, Nat.reduceSub, Nat.reduceEqDiff, Nat.reduceLeDiff, Nat.reduceLT, reduceCtorEq, Nat.succ_eq_add_one]) (by simp only [rpS, go_sem, reduceIte, Nat.reduceAdd, Nat.reduceMul, Nat.reduceSub, Nat.reduceEqDiff, Nat.reduceLeDiff, Nat.reduceLT, reduceCtorEq, Nat.succ_eq_add_one]) (by simp only [rpS, rv, Int.cast_ofNat_Int, Int.reduceBEq, Int.reduceLT, Int.reduceLE, Int.reduceSub, Int.reduceAdd, Int.reduceNeg, Int.reduceEq, Int.reduceToNat, decide_true, decide_false, decide_eq_true_eq, beq_self_eq_true, bne_self_eq_false, List.reduceReplicate, List.length_set, List.length_replicate, List.length_cons, List.length_nil, List.set_cons_zero, List.set_cons_succ, Int.toNat_natCast, go_sem, reduceIte, Nat.reduceAdd, Nat.reduceMul, Nat.reduceSub, Nat.reduceEqDiff, Nat.reduceLeDiff, Nat.reduceLT, reduceCtorEq, Nat.succ_eq_add_one]))
        · have hF := fn36 (rcs n q.h q.l) q.h q.l.length m
          have hln : q.l.length < n := by omega
          rw [pushB_ok rg (val_ok hm) hln hni] at hF
          have hff : ((q.l.length : Int) == (n : Int)) = false := by simp; omega
          refine goCall0 hF rfl rfl ?_
          simp only [hff, hms, encM_len, Int.cast_ofNat_Int, Int.reduceBEq, Int.reduceLT, Int.reduceLE, Int.reduceSub, Int.reduceAdd, Int.reduceNeg, Int.reduceEq, Int.reduceToNat, decide_true, decide_false, decide_eq_true_eq, beq_self_eq_true, bne_self_eq_false, List.reduceReplicate, List.length_set, List.length_replicate, List.length_cons, List.length_nil, List.set_cons_zero, List.set_cons_succ, Int.toNat_natCast, go_sem, reduceIte, Nat.reduceAdd, Nat.reduceMul, Nat.reduceSub, Nat.reduceEqDiff, Nat.reduceLeDiff, Nat.reduceLT, reduceCtorEq, Nat.succ_eq_add_one]
          have hmax : q.l.length + 1 ≤ maxLen := Nat.le_trans (show _ ≤ 13 by omega) (by decide)
          refine ⟨⟨by omega, hmax, hms2⟩, ?_⟩
          have okp : ∀ x ∈ q.l ++ [m], x.ok := fun x hx => by
            rcases List.mem_append.1 hx with h | h
            · exact q.ok x h
            · simp at h; subst h; exact hm
          have ltp : ∀ x ∈ q.l ++ [m], x.id < ((q.i + 1 : Nat) : Int) := fun x hx => by
            rcases List.mem_append.1 hx with h | h
            · have := q.lt x h; omega
            · simp at h; subst h; omega
          have ndp : (ids (q.l ++ [m])).Nodup := by
            simp only [ids, List.map_append, List.map_cons, List.map_nil, List.nodup_append]
            refine ⟨q.nd, by simp, fun a ha b hb => ?_⟩
            simp only [List.mem_singleton] at hb
            subst hb
            intro e; subst e; exact hni ha
          have rgp : Rg n q.h (q.l ++ [m]) := Rg.of hn1 hn2 hhh (by simp; omega) okp ndp
          have rg' := rgp
          have hr' : ((encM (q.l ++ [m])).drop (0)).take (q.l ++ [m]).length = encM (q.l ++ [m]) := by rw [List.drop_zero, encM_takeL]
          have hr2' : (0) + (q.l ++ [m]).length ≤ (encM (q.l ++ [m])).length := by simp only [encM_len]; omega
          have hL := fn21 (rcs n (q.h) (q.l ++ [m])) (q.h : Nat) ((q.l ++ [m]).length : Nat)
          rw [listA_ok rg'] at hL
          have hlen12 : (q.l ++ [m]).length ≤ 12 := by have := rg'.ll; omega
          refine goCall0 hL rfl rfl ?_
          simp only [Int.cast_ofNat_Int, Int.reduceBEq, Int.reduceLT, Int.reduceLE, Int.reduceSub, Int.reduceAdd, Int.reduceNeg, Int.reduceEq, Int.reduceToNat, decide_true, decide_false, decide_eq_true_eq, beq_self_eq_true, bne_self_eq_false, List.reduceReplicate, List.length_set, List.length_replicate, List.length_cons, List.length_nil, List.set_cons_zero, List.set_cons_succ, Int.toNat_natCast, go_sem, reduceIte, Nat.reduceAdd, Nat.reduceMul, Nat.reduceSub, Nat.reduceEqDiff, Nat.reduceLeDiff, Nat.reduceLT, reduceCtorEq, Nat.succ_eq_add_one]
          refine goCallS0 (fn23 (q.l ++ [m]) (by omega)) (by simp only [rvL, rv, hr', hms, encM_app, encM_one, List.length_append, List.drop_zero, encM_len, encM_takeL, get, List.map_nil, List.not_mem_nil, not_false_eq_true, true_and, Int.cast_ofNat_Int, Int.reduceBEq, Int.reduceLT, Int.reduceLE, Int.reduceSub, Int.reduceAdd, Int.reduceNeg, Int.reduceEq, Int.reduceToNat, decide_true, decide_false, decide_eq_true_eq, beq_self_eq_true, bne_self_eq_false, List.reduceReplicate, List.length_set, List.length_replicate, List.length_cons, List.length_nil, List.set_cons_zero, List.set_cons_succ, Int.toNat_natCast, go_sem, reduceIte, Nat.reduceAdd, Nat.reduceMul, Nat.reduceSub, Nat.reduceEqDiff, Nat.reduceLeDiff, Nat.reduceLT, reduceCtorEq, Nat.succ_eq_add_one]; all_goals (rw [List.take_of_length_le (by rw [List.length_append, encM_len]; exact Nat.le_refl _)]; exact ⟨Nat.le_refl _, rfl⟩)) rfl rfl ?_
          simp only [w64_succ (show q.i ≤ 100000 by omega), bneI, List.length_append, Nat.add_comm 1, Int.cast_ofNat_Int, Int.reduceBEq, Int.reduceLT, Int.reduceLE, Int.reduceSub, Int.reduceAdd, Int.reduceNeg, Int.reduceEq, Int.reduceToNat, decide_true, decide_false, decide_eq_true_eq, beq_self_eq_true, bne_self_eq_false, List.reduceReplicate, List.length_set, List.length_replicate, List.length_cons, List.length_nil, List.set_cons_zero, List.set_cons_succ, Int.toNat_natCast, go_sem, reduceIte, Nat.reduceAdd, Nat.reduceMul, Nat.reduceSub, Nat.reduceEqDiff, Nat.reduceLeDiff, Nat.reduceLT, reduceCtorEq, Nat.succ_eq_add_one]
          exact hB _ ⟨q.i + 1, q.h, q.l ++ [m], 0, encM (q.l ++ [m]), a3, by omega, rg', okp, ltp, ndp, hr', hr2', w3⟩ (by simp only; omega)
            (Wk.mk [(24, 24), (88, 88), (1500, 2392)] [] rfl rfl (by simp only [rpS, rvH, rvO, rvL, rv, hms, encM_app, encM_one, List.length_append, go_sem, reduceIte, Nat.reduceAdd, Nat.reduceMul, Nat.reduceSub, Nat.reduceEqDiff, Nat.reduceLeDiff, Nat.reduceLT, reduceCtorEq, Nat.succ_eq_add_one]) (by simp only [rpS, go_sem, reduceIte, Nat.reduceAdd, Nat.reduceMul, Nat.reduceSub, Nat.reduceEqDiff, Nat.reduceLeDiff, Nat.reduceLT, reduceCtorEq, Nat.succ_eq_add_one]) (by simp only [rpS, rv, hms, encM_app, encM_one, List.length_append, Int.cast_ofNat_Int, Int.reduceBEq, Int.reduceLT, Int.reduceLE, Int.reduceSub, Int.reduceAdd, Int.reduceNeg, Int.reduceEq, Int.reduceToNat, decide_true, decide_false, decide_eq_true_eq, beq_self_eq_true, bne_self_eq_false, List.reduceReplicate, List.length_set, List.length_replicate, List.length_cons, List.length_nil, List.set_cons_zero, List.set_cons_succ, Int.toNat_natCast, go_sem, reduceIte, Nat.reduceAdd, Nat.reduceMul, Nat.reduceSub, Nat.reduceEqDiff, Nat.reduceLeDiff, Nat.reduceLT, reduceCtorEq, Nat.succ_eq_add_one]))
      have b0 : (v == 0) = false := by simp [hv0]
      by_cases hv1 : v = 1
      · have b1 : (v == 1) = true := by simp [hv1]
        simp only [b0, b1, Int.cast_ofNat_Int, Int.reduceBEq, Int.reduceLT, Int.reduceLE, Int.reduceSub, Int.reduceAdd, Int.reduceNeg, Int.reduceEq, Int.reduceToNat, decide_true, decide_false, decide_eq_true_eq, beq_self_eq_true, bne_self_eq_false, List.reduceReplicate, List.length_set, List.length_replicate, List.length_cons, List.length_nil, List.set_cons_zero, List.set_cons_succ, Int.toNat_natCast, go_sem, reduceIte, Nat.reduceAdd, Nat.reduceMul, Nat.reduceSub, Nat.reduceEqDiff, Nat.reduceLeDiff, Nat.reduceLT, reduceCtorEq, Nat.succ_eq_add_one]
        by_cases hf : q.l.length = n
        · have hF := fn36 (rcs n q.h q.l) q.h q.l.length m
          rw [pushB_full rg (val_ok hm) hf] at hF
          have hff : ((q.l.length : Int) == (n : Int)) = true := by simp [hf]
          refine goCall0 hF rfl rfl ?_
          simp only [hff, Int.cast_ofNat_Int, Int.reduceBEq, Int.reduceLT, Int.reduceLE, Int.reduceSub, Int.reduceAdd, Int.reduceNeg, Int.reduceEq, Int.reduceToNat, decide_true, decide_false, decide_eq_true_eq, beq_self_eq_true, bne_self_eq_false, List.reduceReplicate, List.length_set, List.length_replicate, List.length_cons, List.length_nil, List.set_cons_zero, List.set_cons_succ, Int.toNat_natCast, go_sem, reduceIte, Nat.reduceAdd, Nat.reduceMul, Nat.reduceSub, Nat.reduceEqDiff, Nat.reduceLeDiff, Nat.reduceLT, reduceCtorEq, Nat.succ_eq_add_one]
          have rg' := rg
          have hr' : ((q.rows).drop (q.off)).take (q.l).length = encM (q.l) := hms
          have hr2' : (q.off) + (q.l).length ≤ (q.rows).length := hms2
          have hL := fn21 (rcs n (q.h) (q.l)) (q.h : Nat) ((q.l).length : Nat)
          rw [listA_ok rg'] at hL
          have hlen12 : (q.l).length ≤ 12 := by have := rg'.ll; omega
          refine goCall0 hL rfl rfl ?_
          simp only [Int.cast_ofNat_Int, Int.reduceBEq, Int.reduceLT, Int.reduceLE, Int.reduceSub, Int.reduceAdd, Int.reduceNeg, Int.reduceEq, Int.reduceToNat, decide_true, decide_false, decide_eq_true_eq, beq_self_eq_true, bne_self_eq_false, List.reduceReplicate, List.length_set, List.length_replicate, List.length_cons, List.length_nil, List.set_cons_zero, List.set_cons_succ, Int.toNat_natCast, go_sem, reduceIte, Nat.reduceAdd, Nat.reduceMul, Nat.reduceSub, Nat.reduceEqDiff, Nat.reduceLeDiff, Nat.reduceLT, reduceCtorEq, Nat.succ_eq_add_one]
          refine goCallS0 (fn23 (q.l) (by omega)) (by simp only [rvL, rv, hr', List.drop_zero, encM_len, encM_takeL, get, List.map_nil, List.not_mem_nil, not_false_eq_true, true_and, Int.cast_ofNat_Int, Int.reduceBEq, Int.reduceLT, Int.reduceLE, Int.reduceSub, Int.reduceAdd, Int.reduceNeg, Int.reduceEq, Int.reduceToNat, decide_true, decide_false, decide_eq_true_eq, beq_self_eq_true, bne_self_eq_false, List.reduceReplicate, List.length_set, List.length_replicate, List.length_cons, List.length_nil, List.set_cons_zero, List.set_cons_succ, Int.toNat_natCast, go_sem, reduceIte, Nat.reduceAdd, Nat.reduceMul, Nat.reduceSub, Nat.reduceEqDiff, Nat.reduceLeDiff, Nat.reduceLT, reduceCtorEq, Nat.succ_eq_add_one]; omega) rfl rfl ?_
          simp only [w64_succ (show q.i ≤ 100000 by omega), bneI, List.length_append, Nat.add_comm 1, Int.cast_ofNat_Int, Int.reduceBEq, Int.reduceLT, Int.reduceLE, Int.reduceSub, Int.reduceAdd, Int.reduceNeg, Int.reduceEq, Int.reduceToNat, decide_true, decide_false, decide_eq_true_eq, beq_self_eq_true, bne_self_eq_false, List.reduceReplicate, List.length_set, List.length_replicate, List.length_cons, List.length_nil, List.set_cons_zero, List.set_cons_succ, Int.toNat_natCast, go_sem, reduceIte, Nat.reduceAdd, Nat.reduceMul, Nat.reduceSub, Nat.reduceEqDiff, Nat.reduceLeDiff, Nat.reduceLT, reduceCtorEq, Nat.succ_eq_add_one]
          exact hB _ ⟨q.i + 1, q.h, q.l, q.off, q.rows, a3, by omega, rg', q.ok, (fun x hx => by have := q.lt x hx; omega), q.nd, hr', hr2', w3⟩ (by simp only; omega)
            (Wk.mk [(24, 24), (88, 88), (1500, 1500)] [] rfl rfl (by simp only [rpS, rvH, rvO, rvL, rv, go_sem, reduceIte, Nat.reduceAdd, Nat.reduceMul, Nat.reduceSub, Nat.reduceEqDiff, Nat.reduceLeDiff, Nat.reduceLT, reduceCtorEq, Nat.succ_eq_add_one]) (by simp only [rpS, go_sem, reduceIte, Nat.reduceAdd, Nat.reduceMul, Nat.reduceSub, Nat.reduceEqDiff, Nat.reduceLeDiff, Nat.reduceLT, reduceCtorEq, Nat.succ_eq_add_one]) (by simp only [rpS, rv, Int.cast_ofNat_Int, Int.reduceBEq, Int.reduceLT, Int.reduceLE, Int.reduceSub, Int.reduceAdd, Int.reduceNeg, Int.reduceEq, Int.reduceToNat, decide_true, decide_false, decide_eq_true_eq, beq_self_eq_true, bne_self_eq_false, List.reduceReplicate, List.length_set, List.length_replicate, List.length_cons, List.length_nil, List.set_cons_zero, List.set_cons_succ, Int.toNat_natCast, go_sem, reduceIte, Nat.reduceAdd, Nat.reduceMul, Nat.reduceSub, Nat.reduceEqDiff, Nat.reduceLeDiff, Nat.reduceLT, reduceCtorEq, Nat.succ_eq_add_one]))
        · have hF := fn36 (rcs n q.h q.l) q.h q.l.length m
          have hln : q.l.length < n := by omega
          rw [pushB_ok rg (val_ok hm) hln hni] at hF
          have hff : ((q.l.length : Int) == (n : Int)) = false := by simp; omega
          refine goCall0 hF rfl rfl ?_
          simp only [hff, hms, encM_len, Int.cast_ofNat_Int, Int.reduceBEq, Int.reduceLT, Int.reduceLE, Int.reduceSub, Int.reduceAdd, Int.reduceNeg, Int.reduceEq, Int.reduceToNat, decide_true, decide_false, decide_eq_true_eq, beq_self_eq_true, bne_self_eq_false, List.reduceReplicate, List.length_set, List.length_replicate, List.length_cons, List.length_nil, List.set_cons_zero, List.set_cons_succ, Int.toNat_natCast, go_sem, reduceIte, Nat.reduceAdd, Nat.reduceMul, Nat.reduceSub, Nat.reduceEqDiff, Nat.reduceLeDiff, Nat.reduceLT, reduceCtorEq, Nat.succ_eq_add_one]
          have hmax : q.l.length + 1 ≤ maxLen := Nat.le_trans (show _ ≤ 13 by omega) (by decide)
          refine ⟨⟨by omega, hmax, hms2⟩, ?_⟩
          have okp : ∀ x ∈ q.l ++ [m], x.ok := fun x hx => by
            rcases List.mem_append.1 hx with h | h
            · exact q.ok x h
            · simp at h; subst h; exact hm
          have ltp : ∀ x ∈ q.l ++ [m], x.id < ((q.i + 1 : Nat) : Int) := fun x hx => by
            rcases List.mem_append.1 hx with h | h
            · have := q.lt x h; omega
            · simp at h; subst h; omega
          have ndp : (ids (q.l ++ [m])).Nodup := by
            simp only [ids, List.map_append, List.map_cons, List.map_nil, List.nodup_append]
            refine ⟨q.nd, by simp, fun a ha b hb => ?_⟩
            simp only [List.mem_singleton] at hb
            subst hb
            intro e; subst e; exact hni ha
          have rgp : Rg n q.h (q.l ++ [m]) := Rg.of hn1 hn2 hhh (by simp; omega) okp ndp
          have rg' := rgp
          have hr' : ((encM (q.l ++ [m])).drop (0)).take (q.l ++ [m]).length = encM (q.l ++ [m]) := by rw [List.drop_zero, encM_takeL]
          have hr2' : (0) + (q.l ++ [m]).length ≤ (encM (q.l ++ [m])).length := by simp only [encM_len]; omega
          have hL := fn21 (rcs n (q.h) (q.l ++ [m])) (q.h : Nat) ((q.l ++ [m]).length : Nat)
          rw [listA_ok rg'] at hL
          have hlen12 : (q.l ++ [m]).length ≤ 12 := by have := rg'.ll; omega
          refine goCall0 hL rfl rfl ?_
          simp only [Int.cast_ofNat_Int, Int.reduceBEq, Int.reduceLT, Int.reduceLE, Int.reduceSub, Int.reduceAdd, Int.reduceNeg, Int.reduceEq, Int.reduceToNat, decide_true, decide_false, decide_eq_true_eq, beq_self_eq_true, bne_self_eq_false, List.reduceReplicate, List.length_set, List.length_replicate, List.length_cons, List.length_nil, List.set_cons_zero, List.set_cons_succ, Int.toNat_natCast, go_sem, reduceIte, Nat.reduceAdd, Nat.reduceMul, Nat.reduceSub, Nat.reduceEqDiff, Nat.reduceLeDiff, Nat.reduceLT, reduceCtorEq, Nat.succ_eq_add_one]
          refine goCallS0 (fn23 (q.l ++ [m]) (by omega)) (by simp only [rvL, rv, hr', hms, encM_app, encM_one, List.length_append, List.drop_zero, encM_len, encM_takeL, get, List.map_nil, List.not_mem_nil, not_false_eq_true, true_and, Int.cast_ofNat_Int, Int.reduceBEq, Int.reduceLT, Int.reduceLE, Int.reduceSub, Int.reduceAdd, Int.reduceNeg, Int.reduceEq, Int.reduceToNat, decide_true, decide_false, decide_eq_true_eq, beq_self_eq_true, bne_self_eq_false, List.reduceReplicate, List.length_set, List.length_replicate, List.length_cons, List.length_nil, List.set_cons_zero, List.set_cons_succ, Int.toNat_natCast, go_sem, reduceIte, Nat.reduceAdd, Nat.reduceMul, Nat.reduceSub, Nat.reduceEqDiff, Nat.reduceLeDiff, Nat.reduceLT, reduceCtorEq, Nat.succ_eq_add_one]; all_goals (rw [List.take_of_length_le (by rw [List.length_append, encM_len]; exact Nat.le_refl _)]; exact ⟨Nat.le_refl _, rfl⟩)) rfl rfl ?_
          simp only [w64_succ (show q.i ≤ 100000 by omega), bneI, List.length_append, Nat.add_comm 1, Int.cast_ofNat_Int, Int.reduceBEq, Int.reduceLT, Int.reduceLE, Int.reduceSub, Int.reduceAdd, Int.reduceNeg, Int.reduceEq, Int.reduceToNat, decide_true, decide_false, decide_eq_true_eq, beq_self_eq_true, bne_self_eq_false, List.reduceReplicate, List.length_set, List.length_replicate, List.length_cons, List.length_nil, List.set_cons_zero, List.set_cons_succ, Int.toNat_natCast, go_sem, reduceIte, Nat.reduceAdd, Nat.reduceMul, Nat.reduceSub, Nat.reduceEqDiff, Nat.reduceLeDiff, Nat.reduceLT, reduceCtorEq, Nat.succ_eq_add_one]
          exact hB _ ⟨q.i + 1, q.h, q.l ++ [m], 0, encM (q.l ++ [m]), a3, by omega, rg', okp, ltp, ndp, hr', hr2', w3⟩ (by simp only; omega)
            (Wk.mk [(24, 24), (88, 88), (1500, 2408)] [] rfl rfl (by simp only [rpS, rvH, rvO, rvL, rv, hms, encM_app, encM_one, List.length_append, go_sem, reduceIte, Nat.reduceAdd, Nat.reduceMul, Nat.reduceSub, Nat.reduceEqDiff, Nat.reduceLeDiff, Nat.reduceLT, reduceCtorEq, Nat.succ_eq_add_one]) (by simp only [rpS, go_sem, reduceIte, Nat.reduceAdd, Nat.reduceMul, Nat.reduceSub, Nat.reduceEqDiff, Nat.reduceLeDiff, Nat.reduceLT, reduceCtorEq, Nat.succ_eq_add_one]) (by simp only [rpS, rv, hms, encM_app, encM_one, List.length_append, Int.cast_ofNat_Int, Int.reduceBEq, Int.reduceLT, Int.reduceLE, Int.reduceSub, Int.reduceAdd, Int.reduceNeg, Int.reduceEq, Int.reduceToNat, decide_true, decide_false, decide_eq_true_eq, beq_self_eq_true, bne_self_eq_false, List.reduceReplicate, List.length_set, List.length_replicate, List.length_cons, List.length_nil, List.set_cons_zero, List.set_cons_succ, Int.toNat_natCast, go_sem, reduceIte, Nat.reduceAdd, Nat.reduceMul, Nat.reduceSub, Nat.reduceEqDiff, Nat.reduceLeDiff, Nat.reduceLT, reduceCtorEq, Nat.succ_eq_add_one]))
      have b1 : (v == 1) = false := by simp [hv1]
      by_cases hv2 : v = 2
      · have b2 : (v == 2) = true := by simp [hv2]
        simp only [b0, b1, b2, Int.cast_ofNat_Int, Int.reduceBEq, Int.reduceLT, Int.reduceLE, Int.reduceSub, Int.reduceAdd, Int.reduceNeg, Int.reduceEq, Int.reduceToNat, decide_true, decide_false, decide_eq_true_eq, beq_self_eq_true, bne_self_eq_false, List.reduceReplicate, List.length_set, List.length_replicate, List.length_cons, List.length_nil, List.set_cons_zero, List.set_cons_succ, Int.toNat_natCast, go_sem, reduceIte, Nat.reduceAdd, Nat.reduceMul, Nat.reduceSub, Nat.reduceEqDiff, Nat.reduceLeDiff, Nat.reduceLT, reduceCtorEq, Nat.succ_eq_add_one]
        by_cases hf : q.l.length = n
        · have hF := fn37 (rcs n q.h q.l) q.h q.l.length m
          rw [pushF_full rg (val_ok hm) hf] at hF
          have hff : ((q.l.length : Int) == (n : Int)) = true := by simp [hf]
          refine goCall0 hF rfl rfl ?_
          simp only [hff, Int.cast_ofNat_Int, Int.reduceBEq, Int.reduceLT, Int.reduceLE, Int.reduceSub, Int.reduceAdd, Int.reduceNeg, Int.reduceEq, Int.reduceToNat, decide_true, decide_false, decide_eq_true_eq, beq_self_eq_true, bne_self_eq_false, List.reduceReplicate, List.length_set, List.length_replicate, List.length_cons, List.length_nil, List.set_cons_zero, List.set_cons_succ, Int.toNat_natCast, go_sem, reduceIte, Nat.reduceAdd, Nat.reduceMul, Nat.reduceSub, Nat.reduceEqDiff, Nat.reduceLeDiff, Nat.reduceLT, reduceCtorEq, Nat.succ_eq_add_one]
          have rg' := rg
          have hr' : ((q.rows).drop (q.off)).take (q.l).length = encM (q.l) := hms
          have hr2' : (q.off) + (q.l).length ≤ (q.rows).length := hms2
          have hL := fn21 (rcs n (q.h) (q.l)) (q.h : Nat) ((q.l).length : Nat)
          rw [listA_ok rg'] at hL
          have hlen12 : (q.l).length ≤ 12 := by have := rg'.ll; omega
          refine goCall0 hL rfl rfl ?_
          simp only [Int.cast_ofNat_Int, Int.reduceBEq, Int.reduceLT, Int.reduceLE, Int.reduceSub, Int.reduceAdd, Int.reduceNeg, Int.reduceEq, Int.reduceToNat, decide_true, decide_false, decide_eq_true_eq, beq_self_eq_true, bne_self_eq_false, List.reduceReplicate, List.length_set, List.length_replicate, List.length_cons, List.length_nil, List.set_cons_zero, List.set_cons_succ, Int.toNat_natCast, go_sem, reduceIte, Nat.reduceAdd, Nat.reduceMul, Nat.reduceSub, Nat.reduceEqDiff, Nat.reduceLeDiff, Nat.reduceLT, reduceCtorEq, Nat.succ_eq_add_one]
          refine goCallS0 (fn23 (q.l) (by omega)) (by simp only [rvL, rv, hr', List.drop_zero, encM_len, encM_takeL, get, List.map_nil, List.not_mem_nil, not_false_eq_true, true_and, Int.cast_ofNat_Int, Int.reduceBEq, Int.reduceLT, Int.reduceLE, Int.reduceSub, Int.reduceAdd, Int.reduceNeg, Int.reduceEq, Int.reduceToNat, decide_true, decide_false, decide_eq_true_eq, beq_self_eq_true, bne_self_eq_false, List.reduceReplicate, List.length_set, List.length_replicate, List.length_cons, List.length_nil, List.set_cons_zero, List.set_cons_succ, Int.toNat_natCast, go_sem, reduceIte, Nat.reduceAdd, Nat.reduceMul, Nat.reduceSub, Nat.reduceEqDiff, Nat.reduceLeDiff, Nat.reduceLT, reduceCtorEq, Nat.succ_eq_add_one]; omega) rfl rfl ?_
          simp only [w64_succ (show q.i ≤ 100000 by omega), bneI, List.length_append, Nat.add_comm 1, Int.cast_ofNat_Int, Int.reduceBEq, Int.reduceLT, Int.reduceLE, Int.reduceSub, Int.reduceAdd, Int.reduceNeg, Int.reduceEq, Int.reduceToNat, decide_true, decide_false, decide_eq_true_eq, beq_self_eq_true, bne_self_eq_false, List.reduceReplicate, List.length_set, List.length_replicate, List.length_cons, List.length_nil, List.set_cons_zero, List.set_cons_succ, Int.toNat_natCast, go_sem, reduceIte, Nat.reduceAdd, Nat.reduceMul, Nat.reduceSub, Nat.reduceEqDiff, Nat.reduceLeDiff, Nat.reduceLT, reduceCtorEq, Nat.succ_eq_add_one]
          exact hB _ ⟨q.i + 1, q.h, q.l, q.off, q.rows, a3, by omega, rg', q.ok, (fun x hx => by have := q.lt x hx; omega), q.nd, hr', hr2', w3⟩ (by simp only; omega)
            (Wk.mk [(24, 24), (88, 88), (1500, 1500)] [] rfl rfl (by simp only [rpS, rvH, rvO, rvL, rv, go_sem, reduceIte, Nat.reduceAdd, Nat.reduceMul, Nat.reduceSub, Nat.reduceEqDiff, Nat.reduceLeDiff, Nat.reduceLT, reduceCtorEq, Nat.succ_eq_add_one]) (by simp only [rpS, go_sem, reduceIte, Nat.reduceAdd, Nat.reduceMul, Nat.reduceSub, Nat.reduceEqDiff, Nat.reduceLeDiff, Nat.reduceLT, reduceCtorEq, Nat.succ_eq_add_one]) (by simp only [rpS, rv, Int.cast_ofNat_Int, Int.reduceBEq, Int.reduceLT, Int.reduceLE, Int.reduceSub, Int.reduceAdd, Int.reduceNeg, Int.reduceEq, Int.reduceToNat, decide_true, decide_false, decide_eq_true_eq, beq_self_eq_true, bne_self_eq_false, List.reduceReplicate, List.length_set, List.length_replicate, List.length_cons, List.length_nil, List.set_cons_zero, List.set_cons_succ, Int.toNat_natCast, go_sem, reduceIte, Nat.reduceAdd, Nat.reduceMul, Nat.reduceSub, Nat.reduceEqDiff, Nat.reduceLeDiff, Nat.reduceLT, reduceCtorEq, Nat.succ_eq_add_one]))
        · have hF := fn37 (rcs n q.h q.l) q.h q.l.length m
          have hln : q.l.length < n := by omega
          rw [pushF_ok rg (val_ok hm) hln hni] at hF
          have hff : ((q.l.length : Int) == (n : Int)) = false := by simp; omega
          refine goCall0 hF rfl rfl ?_
          simp only [hff, hms, encM_len, Int.cast_ofNat_Int, Int.reduceBEq, Int.reduceLT, Int.reduceLE, Int.reduceSub, Int.reduceAdd, Int.reduceNeg, Int.reduceEq, Int.reduceToNat, decide_true, decide_false, decide_eq_true_eq, beq_self_eq_true, bne_self_eq_false, List.reduceReplicate, List.length_set, List.length_replicate, List.length_cons, List.length_nil, List.set_cons_zero, List.set_cons_succ, Int.toNat_natCast, go_sem, reduceIte, Nat.reduceAdd, Nat.reduceMul, Nat.reduceSub, Nat.reduceEqDiff, Nat.reduceLeDiff, Nat.reduceLT, reduceCtorEq, Nat.succ_eq_add_one]
          have hmax : 1 + q.l.length ≤ maxLen := Nat.le_trans (show _ ≤ 13 by omega) (by decide)
          refine ⟨⟨hms2, by omega, hmax⟩, ?_⟩
          have okp : ∀ x ∈ m :: q.l, x.ok := fun x hx => by
            rcases List.mem_cons.1 hx with h | h
            · subst h; exact hm
            · exact q.ok x h
          have ltp : ∀ x ∈ m :: q.l, x.id < ((q.i + 1 : Nat) : Int) := fun x hx => by
            rcases List.mem_cons.1 hx with h | h
            · subst h; omega
            · have := q.lt x h; omega
          have ndp : (ids (m :: q.l)).Nodup := by
            simp only [ids, List.map_cons, List.nodup_cons]
            exact ⟨hni, q.nd⟩
          have rgp : Rg n ((q.h + (n - 1)) % n) (m :: q.l) := Rg.of hn1 hn2 (Nat.mod_lt _ (by omega)) (by simp; omega) okp ndp
          have hcons : encM (m :: q.l) = m.enc :: encM q.l := rfl
          have rg' := rgp
          have hr' : ((encM (m :: q.l)).drop (0)).take (m :: q.l).length = encM (m :: q.l) := by rw [List.drop_zero, encM_takeL]
          have hr2' : (0) + (m :: q.l).length ≤ (encM (m :: q.l)).length := by simp only [encM_len]; omega
          have hL := fn21 (rcs n ((q.h + (n - 1)) % n) (m :: q.l)) ((q.h + (n - 1)) % n : Nat) ((m :: q.l).length : Nat)
          rw [listA_ok rg'] at hL
          have hlen12 : (m :: q.l).length ≤ 12 := by have := rg'.ll; omega
          refine goCall0 hL rfl rfl ?_
          simp only [Int.cast_ofNat_Int, Int.reduceBEq, Int.reduceLT, Int.reduceLE, Int.reduceSub, Int.reduceAdd, Int.reduceNeg, Int.reduceEq, Int.reduceToNat, decide_true, decide_false, decide_eq_true_eq, beq_self_eq_true, bne_self_eq_false, List.reduceReplicate, List.length_set, List.length_replicate, List.length_cons, List.length_nil, List.set_cons_zero, List.set_cons_succ, Int.toNat_natCast, go_sem, reduceIte, Nat.reduceAdd, Nat.reduceMul, Nat.reduceSub, Nat.reduceEqDiff, Nat.reduceLeDiff, Nat.reduceLT, reduceCtorEq, Nat.succ_eq_add_one]
          refine goCallS0 (fn23 (m :: q.l) (by omega)) (by simp only [rvL, rv, hr', hms, hcons, Nat.add_comm 1, Nat.le_refl, List.drop_zero, encM_len, encM_takeL, get, List.map_nil, List.not_mem_nil, not_false_eq_true, true_and, Int.cast_ofNat_Int, Int.reduceBEq, Int.reduceLT, Int.reduceLE, Int.reduceSub, Int.reduceAdd, Int.reduceNeg, Int.reduceEq, Int.reduceToNat, decide_true, decide_false, decide_eq_true_eq, beq_self_eq_true, bne_self_eq_false, List.reduceReplicate, List.length_set, List.length_replicate, List.length_cons, List.length_nil, List.set_cons_zero, List.set_cons_succ, Int.toNat_natCast, go_sem, reduceIte, Nat.reduceAdd, Nat.reduceMul, Nat.reduceSub, Nat.reduceEqDiff, Nat.reduceLeDiff, Nat.reduceLT, reduceCtorEq, Nat.succ_eq_add_one]; all_goals (rw [List.take_of_length_le (by rw [List.length_append, encM_len]; exact Nat.le_refl _)])) rfl rfl ?_
          simp only [w64_succ (show q.i ≤ 100000 by omega), bneI, List.length_append, Nat.add_comm 1, Int.cast_ofNat_Int, Int.reduceBEq, Int.reduceLT, Int.reduceLE, Int.reduceSub, Int.reduceAdd, Int.reduceNeg, Int.reduceEq, Int.reduceToNat, decide_true, decide_false, decide_eq_true_eq, beq_self_eq_true, bne_self_eq_false, List.reduceReplicate, List.length_set, List.length_replicate, List.length_cons, List.length_nil, List.set_cons_zero, List.set_cons_succ, Int.toNat_natCast, go_sem, reduceIte, Nat.reduceAdd, Nat.reduceMul, Nat.reduceSub, Nat.reduceEqDiff, Nat.reduceLeDiff, Nat.reduceLT, reduceCtorEq, Nat.succ_eq_add_one]
          exact hB _ ⟨q.i + 1, (q.h + (n - 1)) % n, m :: q.l, 0, encM (m :: q.l), a3, by omega, rg', okp, ltp, ndp, hr', hr2', w3⟩ (by simp only; omega)
            (Wk.mk [(24, 24), (88, 88), (1500, 2424)] [] rfl rfl (by simp only [rpS, rvH, rvO, rvL, rv, hms, hcons, Nat.add_comm 1, Nat.le_refl, go_sem, reduceIte, Nat.reduceAdd, Nat.reduceMul, Nat.reduceSub, Nat.reduceEqDiff, Nat.reduceLeDiff, Nat.reduceLT, reduceCtorEq, Nat.succ_eq_add_one]) (by simp only [rpS, go_sem, reduceIte, Nat.reduceAdd, Nat.reduceMul, Nat.reduceSub, Nat.reduceEqDiff, Nat.reduceLeDiff, Nat.reduceLT, reduceCtorEq, Nat.succ_eq_add_one]) (by simp only [rpS, rv, hms, hcons, Nat.add_comm 1, Nat.le_refl, Int.cast_ofNat_Int, Int.reduceBEq, Int.reduceLT, Int.reduceLE, Int.reduceSub, Int.reduceAdd, Int.reduceNeg, Int.reduceEq, Int.reduceToNat, decide_true, decide_false, decide_eq_true_eq, beq_self_eq_true, bne_self_eq_false, List.reduceReplicate, List.length_set, List.length_replicate, List.length_cons, List.length_nil, List.set_cons_zero, List.set_cons_succ, Int.toNat_natCast, go_sem, reduceIte, Nat.reduceAdd, Nat.reduceMul, Nat.reduceSub, Nat.reduceEqDiff, Nat.reduceLeDiff, Nat.reduceLT, reduceCtorEq, Nat.succ_eq_add_one]))
      have b2 : (v == 2) = false := by simp [hv2]
      by_cases hv3 : v = 3
      · have b3 : (v == 3) = true := by simp [hv3]
        simp only [b0, b1, b2, b3, Int.cast_ofNat_Int, Int.reduceBEq, Int.reduceLT, Int.reduceLE, Int.reduceSub, Int.reduceAdd, Int.reduceNeg, Int.reduceEq, Int.reduceToNat, decide_true, decide_false, decide_eq_true_eq, beq_self_eq_true, bne_self_eq_false, List.reduceReplicate, List.length_set, List.length_replicate, List.length_cons, List.length_nil, List.set_cons_zero, List.set_cons_succ, Int.toNat_natCast, go_sem, reduceIte, Nat.reduceAdd, Nat.reduceMul, Nat.reduceSub, Nat.reduceEqDiff, Nat.reduceLeDiff, Nat.reduceLT, reduceCtorEq, Nat.succ_eq_add_one]
        have hc : q.l = [] ∨ ∃ m1 l1, q.l = m1 :: l1 := by cases q.l with | nil => exact .inl rfl | cons x y => exact .inr ⟨x, y, rfl⟩
        rcases hc with hnil | ⟨m1, l1, hcq⟩
        · have hF := fn38 (rcs n q.h q.l) q.h q.l.length
          have h0 : q.l.length = 0 := by rw [hnil]; rfl
          rw [hnil] at rg
          have hF2 : Fn Try.prog 38 [ringA (rcs n q.h q.l) q.h q.l.length] [] (.tup [ringA [] 0 0, .agg zM.enc, I 4]) [] [] := by
            rw [hnil] at hF ⊢; rw [popF_no rg] at hF; exact hF
          rw [← hnil] at rg
          refine goCall0 hF2 rfl rfl ?_
          have hgt : decide ((0 : Int) < (q.l.length : Int)) = false := by simp; omega
          simp only [hgt, Int.cast_ofNat_Int, Int.reduceBEq, Int.reduceLT, Int.reduceLE, Int.reduceSub, Int.reduceAdd, Int.reduceNeg, Int.reduceEq, Int.reduceToNat, decide_true, decide_false, decide_eq_true_eq, beq_self_eq_true, bne_self_eq_false, List.reduceReplicate, List.length_set, List.length_replicate, List.length_cons, List.length_nil, List.set_cons_zero, List.set_cons_succ, Int.toNat_natCast, go_sem, reduceIte, Nat.reduceAdd, Nat.reduceMul, Nat.reduceSub, Nat.reduceEqDiff, Nat.reduceLeDiff, Nat.reduceLT, reduceCtorEq, Nat.succ_eq_add_one]
          refine ⟨rfl, ?_⟩
          have rg' := rg
          have hr' : ((q.rows).drop (q.off)).take (q.l).length = encM (q.l) := hms
          have hr2' : (q.off) + (q.l).length ≤ (q.rows).length := hms2
          have hL := fn21 (rcs n (q.h) (q.l)) (q.h : Nat) ((q.l).length : Nat)
          rw [listA_ok rg'] at hL
          have hlen12 : (q.l).length ≤ 12 := by have := rg'.ll; omega
          refine goCall0 hL rfl rfl ?_
          simp only [Int.cast_ofNat_Int, Int.reduceBEq, Int.reduceLT, Int.reduceLE, Int.reduceSub, Int.reduceAdd, Int.reduceNeg, Int.reduceEq, Int.reduceToNat, decide_true, decide_false, decide_eq_true_eq, beq_self_eq_true, bne_self_eq_false, List.reduceReplicate, List.length_set, List.length_replicate, List.length_cons, List.length_nil, List.set_cons_zero, List.set_cons_succ, Int.toNat_natCast, go_sem, reduceIte, Nat.reduceAdd, Nat.reduceMul, Nat.reduceSub, Nat.reduceEqDiff, Nat.reduceLeDiff, Nat.reduceLT, reduceCtorEq, Nat.succ_eq_add_one]
          refine goCallS0 (fn23 (q.l) (by omega)) (by simp only [rvL, rv, hr', List.drop_zero, encM_len, encM_takeL, get, List.map_nil, List.not_mem_nil, not_false_eq_true, true_and, Int.cast_ofNat_Int, Int.reduceBEq, Int.reduceLT, Int.reduceLE, Int.reduceSub, Int.reduceAdd, Int.reduceNeg, Int.reduceEq, Int.reduceToNat, decide_true, decide_false, decide_eq_true_eq, beq_self_eq_true, bne_self_eq_false, List.reduceReplicate, List.length_set, List.length_replicate, List.length_cons, List.length_nil, List.set_cons_zero, List.set_cons_succ, Int.toNat_natCast, go_sem, reduceIte, Nat.reduceAdd, Nat.reduceMul, Nat.reduceSub, Nat.reduceEqDiff, Nat.reduceLeDiff, Nat.reduceLT, reduceCtorEq, Nat.succ_eq_add_one]; omega) rfl rfl ?_
          simp only [w64_succ (show q.i ≤ 100000 by omega), bneI, List.length_append, Nat.add_comm 1, Int.cast_ofNat_Int, Int.reduceBEq, Int.reduceLT, Int.reduceLE, Int.reduceSub, Int.reduceAdd, Int.reduceNeg, Int.reduceEq, Int.reduceToNat, decide_true, decide_false, decide_eq_true_eq, beq_self_eq_true, bne_self_eq_false, List.reduceReplicate, List.length_set, List.length_replicate, List.length_cons, List.length_nil, List.set_cons_zero, List.set_cons_succ, Int.toNat_natCast, go_sem, reduceIte, Nat.reduceAdd, Nat.reduceMul, Nat.reduceSub, Nat.reduceEqDiff, Nat.reduceLeDiff, Nat.reduceLT, reduceCtorEq, Nat.succ_eq_add_one]
          exact hB _ ⟨q.i + 1, q.h, q.l, q.off, q.rows, a3, by omega, rg', q.ok, (fun x hx => by have := q.lt x hx; omega), q.nd, hr', hr2', w3⟩ (by simp only; omega)
            (Wk.mk [(24, 24), (88, 88), (1500, 1500)] [] rfl rfl (by simp only [rpS, rvH, rvO, rvL, rv, go_sem, reduceIte, Nat.reduceAdd, Nat.reduceMul, Nat.reduceSub, Nat.reduceEqDiff, Nat.reduceLeDiff, Nat.reduceLT, reduceCtorEq, Nat.succ_eq_add_one]) (by simp only [rpS, go_sem, reduceIte, Nat.reduceAdd, Nat.reduceMul, Nat.reduceSub, Nat.reduceEqDiff, Nat.reduceLeDiff, Nat.reduceLT, reduceCtorEq, Nat.succ_eq_add_one]) (by simp only [rpS, rv, Int.cast_ofNat_Int, Int.reduceBEq, Int.reduceLT, Int.reduceLE, Int.reduceSub, Int.reduceAdd, Int.reduceNeg, Int.reduceEq, Int.reduceToNat, decide_true, decide_false, decide_eq_true_eq, beq_self_eq_true, bne_self_eq_false, List.reduceReplicate, List.length_set, List.length_replicate, List.length_cons, List.length_nil, List.set_cons_zero, List.set_cons_succ, Int.toNat_natCast, go_sem, reduceIte, Nat.reduceAdd, Nat.reduceMul, Nat.reduceSub, Nat.reduceEqDiff, Nat.reduceLeDiff, Nat.reduceLT, reduceCtorEq, Nat.succ_eq_add_one]))
        · have hF := fn38 (rcs n q.h q.l) q.h q.l.length
          have hpos : 0 < q.l.length := by rw [hcq]; simp
          have hF2 : Fn Try.prog 38 [ringA (rcs n q.h q.l) q.h q.l.length] [] (.tup [ringC n ((q.h + 1) % n) l1, .agg m1.enc, I 0]) [] [] := by
            rw [hcq] at hF rg ⊢; rw [popF_ok rg] at hF; exact hF
          have h0 : q.l[0] = m1 := by simp [hcq]
          have hn0 : nth q.rows q.off = m1.enc := by have := rows_nth hms hpos; rwa [h0, Nat.add_zero] at this
          refine goCall0 hF2 rfl rfl ?_
          have hgt : decide ((0 : Int) < (q.l.length : Int)) = true := by simp; omega
          have hl1 : l1.length = q.l.length - 1 := by rw [hcq]; simp
          have okp : ∀ x ∈ l1, x.ok := fun x hx => q.ok x (by rw [hcq]; simp [hx])
          have ltp : ∀ x ∈ l1, x.id < ((q.i + 1 : Nat) : Int) := fun x hx => by have := q.lt x (by rw [hcq]; simp [hx]); omega
          have ndp : (ids l1).Nodup := by have := q.nd; rw [hcq] at this; simp only [ids, List.map_cons, List.nodup_cons] at this; exact this.2
          have rgp : Rg n ((q.h + 1) % n) l1 := Rg.of hn1 hn2 (Nat.mod_lt _ (by omega)) (by omega) okp ndp
          have hrp : (q.rows.drop (q.off + 1)).take l1.length = encM l1 := by
            rw [← List.drop_drop, hl1, ← List.drop_take, hms, hcq]; rfl
          have hr2p : q.off + 1 + l1.length ≤ q.rows.length := by omega
          simp only [hgt, hn0, ← hl1, Int.cast_ofNat_Int, Int.reduceBEq, Int.reduceLT, Int.reduceLE, Int.reduceSub, Int.reduceAdd, Int.reduceNeg, Int.reduceEq, Int.reduceToNat, decide_true, decide_false, decide_eq_true_eq, beq_self_eq_true, bne_self_eq_false, List.reduceReplicate, List.length_set, List.length_replicate, List.length_cons, List.length_nil, List.set_cons_zero, List.set_cons_succ, Int.toNat_natCast, go_sem, reduceIte, Nat.reduceAdd, Nat.reduceMul, Nat.reduceSub, Nat.reduceEqDiff, Nat.reduceLeDiff, Nat.reduceLT, reduceCtorEq, Nat.succ_eq_add_one]
          refine ⟨by omega, by omega, rfl, ⟨by omega, by omega⟩, ?_⟩
          have rg' := rgp
          have hr' : ((q.rows).drop (q.off + 1)).take (l1).length = encM (l1) := hrp
          have hr2' : (q.off + 1) + (l1).length ≤ (q.rows).length := hr2p
          have hL := fn21 (rcs n ((q.h + 1) % n) (l1)) ((q.h + 1) % n : Nat) ((l1).length : Nat)
          rw [listA_ok rg'] at hL
          have hlen12 : (l1).length ≤ 12 := by have := rg'.ll; omega
          refine goCall0 hL rfl rfl ?_
          simp only [Int.cast_ofNat_Int, Int.reduceBEq, Int.reduceLT, Int.reduceLE, Int.reduceSub, Int.reduceAdd, Int.reduceNeg, Int.reduceEq, Int.reduceToNat, decide_true, decide_false, decide_eq_true_eq, beq_self_eq_true, bne_self_eq_false, List.reduceReplicate, List.length_set, List.length_replicate, List.length_cons, List.length_nil, List.set_cons_zero, List.set_cons_succ, Int.toNat_natCast, go_sem, reduceIte, Nat.reduceAdd, Nat.reduceMul, Nat.reduceSub, Nat.reduceEqDiff, Nat.reduceLeDiff, Nat.reduceLT, reduceCtorEq, Nat.succ_eq_add_one]
          refine goCallS0 (fn23 (l1) (by omega)) (by simp only [rvL, rv, hr', List.drop_zero, encM_len, encM_takeL, get, List.map_nil, List.not_mem_nil, not_false_eq_true, true_and, Int.cast_ofNat_Int, Int.reduceBEq, Int.reduceLT, Int.reduceLE, Int.reduceSub, Int.reduceAdd, Int.reduceNeg, Int.reduceEq, Int.reduceToNat, decide_true, decide_false, decide_eq_true_eq, beq_self_eq_true, bne_self_eq_false, List.reduceReplicate, List.length_set, List.length_replicate, List.length_cons, List.length_nil, List.set_cons_zero, List.set_cons_succ, Int.toNat_natCast, go_sem, reduceIte, Nat.reduceAdd, Nat.reduceMul, Nat.reduceSub, Nat.reduceEqDiff, Nat.reduceLeDiff, Nat.reduceLT, reduceCtorEq, Nat.succ_eq_add_one]; omega) rfl rfl ?_
          simp only [w64_succ (show q.i ≤ 100000 by omega), bneI, List.length_append, Nat.add_comm 1, Int.cast_ofNat_Int, Int.reduceBEq, Int.reduceLT, Int.reduceLE, Int.reduceSub, Int.reduceAdd, Int.reduceNeg, Int.reduceEq, Int.reduceToNat, decide_true, decide_false, decide_eq_true_eq, beq_self_eq_true, bne_self_eq_false, List.reduceReplicate, List.length_set, List.length_replicate, List.length_cons, List.length_nil, List.set_cons_zero, List.set_cons_succ, Int.toNat_natCast, go_sem, reduceIte, Nat.reduceAdd, Nat.reduceMul, Nat.reduceSub, Nat.reduceEqDiff, Nat.reduceLeDiff, Nat.reduceLT, reduceCtorEq, Nat.succ_eq_add_one]
          exact hB _ ⟨q.i + 1, (q.h + 1) % n, l1, q.off + 1, q.rows, a3, by omega, rg', okp, ltp, ndp, hr', hr2', w3⟩ (by simp only; omega)
            (Wk.mk [(24, 24), (88, 88), (1500, 1500)] [] rfl rfl (by simp only [rpS, rvH, rvO, rvL, rv, go_sem, reduceIte, Nat.reduceAdd, Nat.reduceMul, Nat.reduceSub, Nat.reduceEqDiff, Nat.reduceLeDiff, Nat.reduceLT, reduceCtorEq, Nat.succ_eq_add_one]) (by simp only [rpS, go_sem, reduceIte, Nat.reduceAdd, Nat.reduceMul, Nat.reduceSub, Nat.reduceEqDiff, Nat.reduceLeDiff, Nat.reduceLT, reduceCtorEq, Nat.succ_eq_add_one]) (by simp only [rpS, rv, Int.cast_ofNat_Int, Int.reduceBEq, Int.reduceLT, Int.reduceLE, Int.reduceSub, Int.reduceAdd, Int.reduceNeg, Int.reduceEq, Int.reduceToNat, decide_true, decide_false, decide_eq_true_eq, beq_self_eq_true, bne_self_eq_false, List.reduceReplicate, List.length_set, List.length_replicate, List.length_cons, List.length_nil, List.set_cons_zero, List.set_cons_succ, Int.toNat_natCast, go_sem, reduceIte, Nat.reduceAdd, Nat.reduceMul, Nat.reduceSub, Nat.reduceEqDiff, Nat.reduceLeDiff, Nat.reduceLT, reduceCtorEq, Nat.succ_eq_add_one]))
      have b3 : (v == 3) = false := by simp [hv3]
      simp only [b0, b1, b2, b3, Int.cast_ofNat_Int, Int.reduceBEq, Int.reduceLT, Int.reduceLE, Int.reduceSub, Int.reduceAdd, Int.reduceNeg, Int.reduceEq, Int.reduceToNat, decide_true, decide_false, decide_eq_true_eq, beq_self_eq_true, bne_self_eq_false, List.reduceReplicate, List.length_set, List.length_replicate, List.length_cons, List.length_nil, List.set_cons_zero, List.set_cons_succ, Int.toNat_natCast, go_sem, reduceIte, Nat.reduceAdd, Nat.reduceMul, Nat.reduceSub, Nat.reduceEqDiff, Nat.reduceLeDiff, Nat.reduceLT, reduceCtorEq, Nat.succ_eq_add_one]
      have hc : q.l = [] ∨ 0 < q.l.length := by cases q.l with | nil => exact .inl rfl | cons x y => exact .inr (by simp)
      rcases hc with hnil | hpos
      · have hF := fn39 (rcs n q.h q.l) q.h q.l.length
        have h0 : q.l.length = 0 := by rw [hnil]; rfl
        rw [hnil] at rg
        have hF2 : Fn Try.prog 39 [ringA (rcs n q.h q.l) q.h q.l.length] [] (.tup [ringA [] 0 0, .agg zM.enc, I 4]) [] [] := by
          rw [hnil] at hF ⊢; rw [popB_no rg] at hF; exact hF
        rw [← hnil] at rg
        refine goCall0 hF2 rfl rfl ?_
        have hgt : decide ((0 : Int) < (q.l.length : Int)) = false := by simp; omega
        simp only [hgt, Int.cast_ofNat_Int, Int.reduceBEq, Int.reduceLT, Int.reduceLE, Int.reduceSub, Int.reduceAdd, Int.reduceNeg, Int.reduceEq, Int.reduceToNat, decide_true, decide_false, decide_eq_true_eq, beq_self_eq_true, bne_self_eq_false, List.reduceReplicate, List.length_set, List.length_replicate, List.length_cons, List.length_nil, List.set_cons_zero, List.set_cons_succ, Int.toNat_natCast, go_sem, reduceIte, Nat.reduceAdd, Nat.reduceMul, Nat.reduceSub, Nat.reduceEqDiff, Nat.reduceLeDiff, Nat.reduceLT, reduceCtorEq, Nat.succ_eq_add_one]
        refine ⟨rfl, ?_⟩
        have rg' := rg
        have hr' : ((q.rows).drop (q.off)).take (q.l).length = encM (q.l) := hms
        have hr2' : (q.off) + (q.l).length ≤ (q.rows).length := hms2
        have hL := fn21 (rcs n (q.h) (q.l)) (q.h : Nat) ((q.l).length : Nat)
        rw [listA_ok rg'] at hL
        have hlen12 : (q.l).length ≤ 12 := by have := rg'.ll; omega
        refine goCall0 hL rfl rfl ?_
        simp only [Int.cast_ofNat_Int, Int.reduceBEq, Int.reduceLT, Int.reduceLE, Int.reduceSub, Int.reduceAdd, Int.reduceNeg, Int.reduceEq, Int.reduceToNat, decide_true, decide_false, decide_eq_true_eq, beq_self_eq_true, bne_self_eq_false, List.reduceReplicate, List.length_set, List.length_replicate, List.length_cons, List.length_nil, List.set_cons_zero, List.set_cons_succ, Int.toNat_natCast, go_sem, reduceIte, Nat.reduceAdd, Nat.reduceMul, Nat.reduceSub, Nat.reduceEqDiff, Nat.reduceLeDiff, Nat.reduceLT, reduceCtorEq, Nat.succ_eq_add_one]
        refine goCallS0 (fn23 (q.l) (by omega)) (by simp only [rvL, rv, hr', List.drop_zero, encM_len, encM_takeL, get, List.map_nil, List.not_mem_nil, not_false_eq_true, true_and, Int.cast_ofNat_Int, Int.reduceBEq, Int.reduceLT, Int.reduceLE, Int.reduceSub, Int.reduceAdd, Int.reduceNeg, Int.reduceEq, Int.reduceToNat, decide_true, decide_false, decide_eq_true_eq, beq_self_eq_true, bne_self_eq_false, List.reduceReplicate, List.length_set, List.length_replicate, List.length_cons, List.length_nil, List.set_cons_zero, List.set_cons_succ, Int.toNat_natCast, go_sem, reduceIte, Nat.reduceAdd, Nat.reduceMul, Nat.reduceSub, Nat.reduceEqDiff, Nat.reduceLeDiff, Nat.reduceLT, reduceCtorEq, Nat.succ_eq_add_one]; omega) rfl rfl ?_
        simp only [w64_succ (show q.i ≤ 100000 by omega), bneI, List.length_append, Nat.add_comm 1, Int.cast_ofNat_Int, Int.reduceBEq, Int.reduceLT, Int.reduceLE, Int.reduceSub, Int.reduceAdd, Int.reduceNeg, Int.reduceEq, Int.reduceToNat, decide_true, decide_false, decide_eq_true_eq, beq_self_eq_true, bne_self_eq_false, List.reduceReplicate, List.length_set, List.length_replicate, List.length_cons, List.length_nil, List.set_cons_zero, List.set_cons_succ, Int.toNat_natCast, go_sem, reduceIte, Nat.reduceAdd, Nat.reduceMul, Nat.reduceSub, Nat.reduceEqDiff, Nat.reduceLeDiff, Nat.reduceLT, reduceCtorEq, Nat.succ_eq_add_one]
        exact hB _ ⟨q.i + 1, q.h, q.l, q.off, q.rows, a3, by omega, rg', q.ok, (fun x hx => by have := q.lt x hx; omega), q.nd, hr', hr2', w3⟩ (by simp only; omega)
          (Wk.mk [(24, 24), (88, 88), (1500, 1500)] [] rfl rfl (by simp only [rpS, rvH, rvO, rvL, rv, go_sem, reduceIte, Nat.reduceAdd, Nat.reduceMul, Nat.reduceSub, Nat.reduceEqDiff, Nat.reduceLeDiff, Nat.reduceLT, reduceCtorEq, Nat.succ_eq_add_one]) (by simp only [rpS, go_sem, reduceIte, Nat.reduceAdd, Nat.reduceMul, Nat.reduceSub, Nat.reduceEqDiff, Nat.reduceLeDiff, Nat.reduceLT, reduceCtorEq, Nat.succ_eq_add_one]) (by simp only [rpS, rv, Int.cast_ofNat_Int, Int.reduceBEq, Int.reduceLT, Int.reduceLE, Int.reduceSub, Int.reduceAdd, Int.reduceNeg, Int.reduceEq, Int.reduceToNat, decide_true, decide_false, decide_eq_true_eq, beq_self_eq_true, bne_self_eq_false, List.reduceReplicate, List.length_set, List.length_replicate, List.length_cons, List.length_nil, List.set_cons_zero, List.set_cons_succ, Int.toNat_natCast, go_sem, reduceIte, Nat.reduceAdd, Nat.reduceMul, Nat.reduceSub, Nat.reduceEqDiff, Nat.reduceLeDiff, Nat.reduceLT, reduceCtorEq, Nat.succ_eq_add_one]))
      · have hF := fn39 (rcs n q.h q.l) q.h q.l.length
        rw [popB_ok rg hpos, gt_in (show q.l.length - 1 < q.l.length by omega)] at hF
        have hn0 : nth q.rows (q.off + (q.l.length - 1)) = (q.l[q.l.length - 1]).enc := rows_nth hms (by omega)
        refine goCall0 hF rfl rfl ?_
        have hgt : decide ((0 : Int) < (q.l.length : Int)) = true := by simp; omega
        have hw : IntKind.i64.wrap ((q.l.length : Int) - 1) = ((q.l.length - 1 : Nat) : Int) := by rw [w64 (by omega)]; omega
        have hlt : (q.l.take (q.l.length - 1)).length = q.l.length - 1 := by simp
        have okp : ∀ x ∈ q.l.take (q.l.length - 1), x.ok := fun x hx => q.ok x (List.mem_of_mem_take hx)
        have ltp : ∀ x ∈ q.l.take (q.l.length - 1), x.id < ((q.i + 1 : Nat) : Int) := fun x hx => by have := q.lt x (List.mem_of_mem_take hx); omega
        have ndp : (ids (q.l.take (q.l.length - 1))).Nodup := by
          have e : ids (q.l.take (q.l.length - 1)) = (ids q.l).take (q.l.length - 1) := by simp [ids, List.map_take]
          rw [e]; exact q.nd.sublist (List.take_sublist _ _)
        have rgp : Rg n q.h (q.l.take (q.l.length - 1)) := Rg.of hn1 hn2 hhh (by omega) okp ndp
        have hrp : (q.rows.drop q.off).take (q.l.take (q.l.length - 1)).length = encM (q.l.take (q.l.length - 1)) := by
          rw [hlt, ← encM_take, ← hms, List.take_take, Nat.min_eq_left (by omega)]
        have hr2p : q.off + (q.l.take (q.l.length - 1)).length ≤ q.rows.length := by omega
        have hrq := hrp
        rw [hlt] at hrq
        simp only [hgt, hw, hn0, hlt, Int.toNat_natCast, Nat.sub_zero, Int.cast_ofNat_Int, Int.reduceBEq, Int.reduceLT, Int.reduceLE, Int.reduceSub, Int.reduceAdd, Int.reduceNeg, Int.reduceEq, Int.reduceToNat, decide_true, decide_false, decide_eq_true_eq, beq_self_eq_true, bne_self_eq_false, List.reduceReplicate, List.length_set, List.length_replicate, List.length_cons, List.length_nil, List.set_cons_zero, List.set_cons_succ, Int.toNat_natCast, go_sem, reduceIte, Nat.reduceAdd, Nat.reduceMul, Nat.reduceSub, Nat.reduceEqDiff, Nat.reduceLeDiff, Nat.reduceLT, reduceCtorEq, Nat.succ_eq_add_one]
        refine ⟨by omega, by omega, rfl, ⟨by omega, by omega⟩, ?_⟩
        have rg' := rgp
        have hr' : ((q.rows).drop (q.off)).take (q.l.take (q.l.length - 1)).length = encM (q.l.take (q.l.length - 1)) := hrp
        have hr2' : (q.off) + (q.l.take (q.l.length - 1)).length ≤ (q.rows).length := hr2p
        have hL := fn21 (rcs n (q.h) (q.l.take (q.l.length - 1))) (q.h : Nat) ((q.l.take (q.l.length - 1)).length : Nat)
        rw [listA_ok rg'] at hL
        rw [hlt] at hL
        have hlen12 : (q.l.take (q.l.length - 1)).length ≤ 12 := by have := rg'.ll; omega
        refine goCall0 hL rfl rfl ?_
        simp only [Int.cast_ofNat_Int, Int.reduceBEq, Int.reduceLT, Int.reduceLE, Int.reduceSub, Int.reduceAdd, Int.reduceNeg, Int.reduceEq, Int.reduceToNat, decide_true, decide_false, decide_eq_true_eq, beq_self_eq_true, bne_self_eq_false, List.reduceReplicate, List.length_set, List.length_replicate, List.length_cons, List.length_nil, List.set_cons_zero, List.set_cons_succ, Int.toNat_natCast, go_sem, reduceIte, Nat.reduceAdd, Nat.reduceMul, Nat.reduceSub, Nat.reduceEqDiff, Nat.reduceLeDiff, Nat.reduceLT, reduceCtorEq, Nat.succ_eq_add_one]
        refine goCallS0 (fn23 (q.l.take (q.l.length - 1)) (by omega)) (by simp only [rvL, rv, hr', hlt, hrq, List.drop_zero, encM_len, encM_takeL, get, List.map_nil, List.not_mem_nil, not_false_eq_true, true_and, Int.cast_ofNat_Int, Int.reduceBEq, Int.reduceLT, Int.reduceLE, Int.reduceSub, Int.reduceAdd, Int.reduceNeg, Int.reduceEq, Int.reduceToNat, decide_true, decide_false, decide_eq_true_eq, beq_self_eq_true, bne_self_eq_false, List.reduceReplicate, List.length_set, List.length_replicate, List.length_cons, List.length_nil, List.set_cons_zero, List.set_cons_succ, Int.toNat_natCast, go_sem, reduceIte, Nat.reduceAdd, Nat.reduceMul, Nat.reduceSub, Nat.reduceEqDiff, Nat.reduceLeDiff, Nat.reduceLT, reduceCtorEq, Nat.succ_eq_add_one]; omega) rfl rfl ?_
        simp only [w64_succ (show q.i ≤ 100000 by omega), bneI, List.length_append, Nat.add_comm 1, Int.cast_ofNat_Int, Int.reduceBEq, Int.reduceLT, Int.reduceLE, Int.reduceSub, Int.reduceAdd, Int.reduceNeg, Int.reduceEq, Int.reduceToNat, decide_true, decide_false, decide_eq_true_eq, beq_self_eq_true, bne_self_eq_false, List.reduceReplicate, List.length_set, List.length_replicate, List.length_cons, List.length_nil, List.set_cons_zero, List.set_cons_succ, Int.toNat_natCast, go_sem, reduceIte, Nat.reduceAdd, Nat.reduceMul, Nat.reduceSub, Nat.reduceEqDiff, Nat.reduceLeDiff, Nat.reduceLT, reduceCtorEq, Nat.succ_eq_add_one]
        exact hB _ ⟨q.i + 1, q.h, q.l.take (q.l.length - 1), q.off, q.rows, a3, by omega, rg', okp, ltp, ndp, hr', hr2', w3⟩ (by simp only; omega)
          (Wk.mk [(24, 24), (88, 88), (1500, 1500)] [] rfl rfl (by simp only [rpS, rvH, rvO, rvL, rv, hlt, hrq, go_sem, reduceIte, Nat.reduceAdd, Nat.reduceMul, Nat.reduceSub, Nat.reduceEqDiff, Nat.reduceLeDiff, Nat.reduceLT, reduceCtorEq, Nat.succ_eq_add_one]) (by simp only [rpS, go_sem, reduceIte, Nat.reduceAdd, Nat.reduceMul, Nat.reduceSub, Nat.reduceEqDiff, Nat.reduceLeDiff, Nat.reduceLT, reduceCtorEq, Nat.succ_eq_add_one]) (by simp only [rpS, rv, hlt, hrq, Int.cast_ofNat_Int, Int.reduceBEq, Int.reduceLT, Int.reduceLE, Int.reduceSub, Int.reduceAdd, Int.reduceNeg, Int.reduceEq, Int.reduceToNat, decide_true, decide_false, decide_eq_true_eq, beq_self_eq_true, bne_self_eq_false, List.reduceReplicate, List.length_set, List.length_replicate, List.length_cons, List.length_nil, List.set_cons_zero, List.set_cons_succ, Int.toNat_natCast, go_sem, reduceIte, Nat.reduceAdd, Nat.reduceMul, Nat.reduceSub, Nat.reduceEqDiff, Nat.reduceLeDiff, Nat.reduceLT, reduceCtorEq, Nat.succ_eq_add_one]))
  · simp only [h3, decide_false, Int.cast_ofNat_Int, Int.reduceBEq, Int.reduceLT, Int.reduceLE, Int.reduceSub, Int.reduceAdd, Int.reduceNeg, Int.reduceEq, Int.reduceToNat, decide_true, decide_false, decide_eq_true_eq, beq_self_eq_true, bne_self_eq_false, List.reduceReplicate, List.length_set, List.length_replicate, List.length_cons, List.length_nil, List.set_cons_zero, List.set_cons_succ, Int.toNat_natCast, go_sem, reduceIte, Nat.reduceAdd, Nat.reduceMul, Nat.reduceSub, Nat.reduceEqDiff, Nat.reduceLeDiff, Nat.reduceLT, reduceCtorEq, Nat.succ_eq_add_one]
    refine goCall0 fn25 rfl rfl ?_
    simp only [go_sem, reduceIte, Nat.reduceAdd, Nat.reduceMul, Nat.reduceSub, Nat.reduceEqDiff, Nat.reduceLeDiff, Nat.reduceLT, reduceCtorEq, Nat.succ_eq_add_one]
    exact Fin.eq0 _ rfl rfl rfl rfl
end Go.Eng
