/-
  Walks and plain lemmas for ScriptTokens: what the functions named below compute, over the abstract states of the engine.
  No condition beyond those that each theorem states.
-/
import Derived.Test.YteonhcjaekodkaaTokS5
set_option linter.all false
set_option linter.unusedSimpArgs false
set_option maxRecDepth 20000
set_option maxHeartbeats 4000000
namespace Go.Eng.Scr
open Go Go.Proofs

theorem w97_26 (a : Nat) : IntKind.i64.wrap (97 + ((a % 26 : Nat) : Int)) = ((97 + a % 26 : Nat) : Int) := by rw [w64 (by omega)]; omega
theorem w8_26 (a : Nat) : IntKind.u8.wrap ((97 + a % 26 : Nat) : Int) = ((97 + a % 26 : Nat) : Int) := by rw [IntKind.wrap_u8]; omega
theorem w8_u8 (x : UInt8) : IntKind.u8.wrap (x.toNat : Int) = (x.toNat : Int) := by rw [IntKind.wrap_u8]; have := x.toNat_lt; omega
attribute [go_sem] w97_26 w8_26 w8_u8

def loopC (b : List UInt8) (p q : Nat) (j : {j : Nat // j ≤ 1 + q % 3}) : St :=
  ⟨1000, [(0, .ptr 0 0), (2, .ptr 8 0), (5, I q), (6, .ptr 128 0), (7, I j.1)],
    [(0, .box [bsl b, I (posN b p j.1)]), (8, .box [Z, Z, Z, Z, Z, Z, Z, Z, Z, Nl, Nl, Nl]), (128, .box [I (3 : Nat), Z, Z, I (1 : Nat), Z, Z, Z, Z, Z, .own 9 1 0 j.1, Nl, Nl]), (9, .row 9 1 (bodies b p j.1))]⟩
def loopD (b : List UInt8) (p q : Nat) (op : Int) (vis : Nat) (j : {j : Nat // j ≤ 1 + q % 3}) : St :=
  ⟨1000, [(0, .ptr 0 0), (2, .ptr 8 0), (5, I q), (6, .ptr 128 0), (8, I j.1)],
    [(0, .box [bsl b, I (refs b p j.1).2]), (8, .box [Z, Z, Z, Z, Z, Z, Z, Z, Z, Nl, Nl, Nl]), (128, .box [I (3 : Nat), Z, Z, I op, Z, Z, I vis, Z, Z, Nl, Nl, .own 9 3 0 j.1]), (9, .row 79 3 (refs b p j.1).1)]⟩

theorem c02 : (((0 : Nat) : Int) == 2) = false := rfl
theorem c12 : (((1 : Nat) : Int) == 2) = false := rfl
theorem c22 : (((2 : Nat) : Int) == 2) = true := rfl
theorem fn59 (b : List UInt8) (p : Nat) (hb : b.length ≤ 100000) : Fn Try.prog 59 [.ptr 0 0] [[bsl b, I p]] (.agg (cmdL b p)) [[bsl b, I (cmdE b p)]] [] := by
  refine Fn.of_go ok59 (by simp) ?_
  unfold s59
  simp only [go_sem, reduceIte, Nat.reduceAdd, Nat.reduceMul, Nat.reduceSub, Nat.reduceEqDiff, Nat.reduceLeDiff, Nat.reduceLT, reduceCtorEq, Nat.succ_eq_add_one]
  refine goCall1 (b := 0) (fn106 b _ hb) ⟨rfl, trivial⟩ rfl rfl rfl rfl ?_; simp only [go_sem, reduceIte, Nat.reduceAdd, Nat.reduceMul, Nat.reduceSub, Nat.reduceEqDiff, Nat.reduceLeDiff, Nat.reduceLT, reduceCtorEq, Nat.succ_eq_add_one]
  refine ⟨by decide, by decide, ?_⟩
  refine goIf_split (fun h1 => ?_) (fun h1 => ?_) <;> simp only [h1, go_sem, reduceIte, Nat.reduceAdd, Nat.reduceMul, Nat.reduceSub, Nat.reduceEqDiff, Nat.reduceLeDiff, Nat.reduceLT, reduceCtorEq, Nat.succ_eq_add_one]
  · have e1 : (byteAt b p).toNat % 16 ≤ 5 := by simp only [decide_eq_true_eq] at h1; omega
    refine goCall1 (b := 0) (fn106 b _ hb) ⟨rfl, trivial⟩ rfl rfl rfl rfl ?_; simp only [go_sem, reduceIte, Nat.reduceAdd, Nat.reduceMul, Nat.reduceSub, Nat.reduceEqDiff, Nat.reduceLeDiff, Nat.reduceLT, reduceCtorEq, Nat.succ_eq_add_one]
    refine ⟨by decide, Fin.mk1 _ rfl rfl rfl (rvL_eq ?_ rfl) (rv_eq ?_ rfl)⟩
    · simp only [cmdE, if_pos e1]
    · simp only [cmdL, if_pos e1, cmdC]; rfl
  have e1 : ¬ (byteAt b p).toNat % 16 ≤ 5 := by simp only [decide_eq_false_iff_not] at h1; omega
  refine goIf_split (fun h2 => ?_) (fun h2 => ?_) <;> simp only [h2, go_sem, reduceIte, Nat.reduceAdd, Nat.reduceMul, Nat.reduceSub, Nat.reduceEqDiff, Nat.reduceLeDiff, Nat.reduceLT, reduceCtorEq, Nat.succ_eq_add_one]
  · have e2 : (byteAt b p).toNat % 16 = 6 := by simp only [beq_iff_eq] at h2; omega
    refine goCall1 (b := 0) (fn106 b _ hb) ⟨rfl, trivial⟩ rfl rfl rfl rfl ?_; simp only [go_sem, reduceIte, Nat.reduceAdd, Nat.reduceMul, Nat.reduceSub, Nat.reduceEqDiff, Nat.reduceLeDiff, Nat.reduceLT, reduceCtorEq, Nat.succ_eq_add_one]
    refine Fin.mk1 _ rfl rfl rfl (rvL_eq ?_ rfl) (rv_eq ?_ rfl)
    · simp only [cmdE, if_neg e1, if_pos e2]
    · simp only [cmdL, if_neg e1, if_pos e2, cmdC]; rfl
  have e2 : ¬ (byteAt b p).toNat % 16 = 6 := by simp only [beq_eq_false_iff_ne, ne_eq] at h2; omega
  refine goIf_split (fun h3 => ?_) (fun h3 => ?_) <;> simp only [h3, go_sem, reduceIte, Nat.reduceAdd, Nat.reduceMul, Nat.reduceSub, Nat.reduceEqDiff, Nat.reduceLeDiff, Nat.reduceLT, reduceCtorEq, Nat.succ_eq_add_one]
  · have e3 : (byteAt b p).toNat % 16 = 7 := by simp only [beq_iff_eq] at h3; omega
    refine go_loop (loopC b (stepAt b p) ((byteAt b p).toNat / 16)) (fun j => 1 + (byteAt b p).toNat / 16 % 3 - j.1) ⟨0, by omega⟩ ?_ ?_
    · refine Wk.mk [(0, 0), (8, 8), (128, 128)] [9] rfl rfl ?_ ?_ ?_
      · simp only [loopC, posN, rv, go_sem, reduceIte, Nat.reduceAdd, Nat.reduceMul, Nat.reduceSub, Nat.reduceEqDiff, Nat.reduceLeDiff, Nat.reduceLT, reduceCtorEq, Nat.succ_eq_add_one]
        exact ⟨rfl, rfl, by simp⟩
      · simp only [loopC, bodies, go_sem, reduceIte, Nat.reduceAdd, Nat.reduceMul, Nat.reduceSub, Nat.reduceEqDiff, Nat.reduceLeDiff, Nat.reduceLT, reduceCtorEq, Nat.succ_eq_add_one]
      · simp only [loopC, rv, go_sem, reduceIte, Nat.reduceAdd, Nat.reduceMul, Nat.reduceSub, Nat.reduceEqDiff, Nat.reduceLeDiff, Nat.reduceLT, reduceCtorEq, Nat.succ_eq_add_one]
        rfl
    · intro j B hB
      simp only [loopC, go_sem, reduceIte, Nat.reduceAdd, Nat.reduceMul, Nat.reduceSub, Nat.reduceEqDiff, Nat.reduceLeDiff, Nat.reduceLT, reduceCtorEq, Nat.succ_eq_add_one]
      refine ⟨by decide, ?_⟩
      refine goIf_split (fun h4 => ?_) (fun h4 => ?_) <;> simp only [h4, go_sem, reduceIte, Nat.reduceAdd, Nat.reduceMul, Nat.reduceSub, Nat.reduceEqDiff, Nat.reduceLeDiff, Nat.reduceLT, reduceCtorEq, Nat.succ_eq_add_one]
      · have hj : j.1 < 1 + (byteAt b p).toNat / 16 % 3 := by simp only [decide_eq_true_eq] at h4; omega
        refine goCallD1 (b := 0) (fn106 b _ hb) ⟨rfl, trivial⟩ rfl rfl rfl rfl ?_
        simp only [Int.toNat_natCast, List.replicate, List.set, w64_succ (show j.1 ≤ 100000 by omega), go_sem, reduceIte, Nat.reduceAdd, Nat.reduceMul, Nat.reduceSub, Nat.reduceEqDiff, Nat.reduceLeDiff, Nat.reduceLT, reduceCtorEq, Nat.succ_eq_add_one]
        refine ⟨by decide, ⟨by omega, by unfold maxLen; omega, by omega⟩, rfl, hB _ ⟨j.1 + 1, by omega⟩ (by simp only; omega) (Wk.mk [(0, 0), (8, 8), (128, 128), (9, 1128)] [] rfl rfl ?_ ?_ ?_)⟩
        · simp only [loopC, posN, bodies, bodyS, rv, List.cons_append, List.nil_append, go_sem, reduceIte, Nat.reduceAdd, Nat.reduceMul, Nat.reduceSub, Nat.reduceEqDiff, Nat.reduceLeDiff, Nat.reduceLT, reduceCtorEq, Nat.succ_eq_add_one]
        · simp only [go_sem, reduceIte, Nat.reduceAdd, Nat.reduceMul, Nat.reduceSub, Nat.reduceEqDiff, Nat.reduceLeDiff, Nat.reduceLT, reduceCtorEq, Nat.succ_eq_add_one]
        · simp only [loopC, posN, bodies, bodyS, rv, List.cons_append, List.nil_append, go_sem, reduceIte, Nat.reduceAdd, Nat.reduceMul, Nat.reduceSub, Nat.reduceEqDiff, Nat.reduceLeDiff, Nat.reduceLT, reduceCtorEq, Nat.succ_eq_add_one]
      · have hj : j.1 = 1 + (byteAt b p).toNat / 16 % 3 := by
          have := j.2
          simp only [decide_eq_false_iff_not] at h4
          omega
        refine Fin.mk1 _ rfl rfl rfl (rvL_eq ?_ rfl) ?_
        · simp only [cmdE, if_neg e1, if_neg e2, if_pos e3, hj]
        · simp only [cmdL, if_neg e1, if_neg e2, if_pos e3, cmdC, rv, hj, go_sem, reduceIte, Nat.reduceAdd, Nat.reduceMul, Nat.reduceSub, Nat.reduceEqDiff, Nat.reduceLeDiff, Nat.reduceLT, reduceCtorEq, Nat.succ_eq_add_one]
          refine ⟨rfl, rfl, ?_⟩
          simp
  have e3 : ¬ (byteAt b p).toNat % 16 = 7 := by simp only [beq_eq_false_iff_ne, ne_eq] at h3; omega
  refine goIf_split (fun h4 => ?_) (fun h4 => ?_) <;> simp only [h4, go_sem, reduceIte, Nat.reduceAdd, Nat.reduceMul, Nat.reduceSub, Nat.reduceEqDiff, Nat.reduceLeDiff, Nat.reduceLT, reduceCtorEq, Nat.succ_eq_add_one]
  · have e4 : (byteAt b p).toNat % 16 = 8 := by simp only [beq_iff_eq] at h4; omega
    refine ⟨by decide, ?_⟩
    refine goCall1 (b := 0) (fn106 b _ hb) ⟨rfl, trivial⟩ rfl rfl rfl rfl ?_; simp only [go_sem, reduceIte, Nat.reduceAdd, Nat.reduceMul, Nat.reduceSub, Nat.reduceEqDiff, Nat.reduceLeDiff, Nat.reduceLT, reduceCtorEq, Nat.succ_eq_add_one]
    refine ⟨by decide, ?_⟩
    refine goCall1 (b := 0) (fn106 b _ hb) ⟨rfl, trivial⟩ rfl rfl rfl rfl ?_; simp only [go_sem, reduceIte, Nat.reduceAdd, Nat.reduceMul, Nat.reduceSub, Nat.reduceEqDiff, Nat.reduceLeDiff, Nat.reduceLT, reduceCtorEq, Nat.succ_eq_add_one]
    refine Fin.mk1 _ rfl rfl rfl (rvL_eq ?_ rfl) (rv_eq ?_ rfl)
    · simp only [cmdE, if_neg e1, if_neg e2, if_neg e3, if_pos e4]
    · simp only [cmdL, if_neg e1, if_neg e2, if_neg e3, if_pos e4, cmdC]; rfl
  have e4 : ¬ (byteAt b p).toNat % 16 = 8 := by simp only [beq_eq_false_iff_ne, ne_eq] at h4; omega
  repeat' first
    | (refine goIf_split (fun h5 => ?_) (fun h5 => ?_) <;> simp only [h5, go_sem, reduceIte, Nat.reduceAdd, Nat.reduceMul, Nat.reduceSub, Nat.reduceEqDiff, Nat.reduceLeDiff, Nat.reduceLT, reduceCtorEq, Nat.succ_eq_add_one])
    | (refine goCall1 (b := 0) (fn106 b _ hb) ⟨rfl, trivial⟩ rfl rfl rfl rfl ?_; simp only [go_sem, reduceIte, Nat.reduceAdd, Nat.reduceMul, Nat.reduceSub, Nat.reduceEqDiff, Nat.reduceLeDiff, Nat.reduceLT, reduceCtorEq, Nat.succ_eq_add_one])
    | (refine And.intro ?_ ?_; focus decide)
  all_goals (simp only [beq_iff_eq, beq_eq_false_iff_ne, ne_eq] at *)
  all_goals first
    | (exfalso; omega)
    | skip
  all_goals first
    | (have e11 : (byteAt b p).toNat % 16 = 11 := by omega
       have e13 : (((byteAt b p).toNat % 16 : Nat) : Int) - 6 = 5 := by omega
       refine go_loop (loopD b (stepAt b (stepAt b p)) ((byteAt b p).toNat / 16) (((byteAt b p).toNat % 16 : Nat) - 6) (byteAt b (stepAt b p)).toNat) (fun j => 1 + (byteAt b p).toNat / 16 % 3 - j.1) ⟨0, by omega⟩ ?_ ?_
       · refine Wk.mk [(0, 0), (8, 8), (128, 128)] [9] rfl rfl ?_ ?_ ?_
         · simp only [loopD, refs, rv, go_sem, reduceIte, Nat.reduceAdd, Nat.reduceMul, Nat.reduceSub, Nat.reduceEqDiff, Nat.reduceLeDiff, Nat.reduceLT, reduceCtorEq, Nat.succ_eq_add_one]
           exact ⟨rfl, by simp⟩
         · simp only [loopD, refs, go_sem, reduceIte, Nat.reduceAdd, Nat.reduceMul, Nat.reduceSub, Nat.reduceEqDiff, Nat.reduceLeDiff, Nat.reduceLT, reduceCtorEq, Nat.succ_eq_add_one]
         · simp only [loopD, rv, go_sem, reduceIte, Nat.reduceAdd, Nat.reduceMul, Nat.reduceSub, Nat.reduceEqDiff, Nat.reduceLeDiff, Nat.reduceLT, reduceCtorEq, Nat.succ_eq_add_one]
           rfl
       · intro j B hB
         simp only [loopD, go_sem, reduceIte, Nat.reduceAdd, Nat.reduceMul, Nat.reduceSub, Nat.reduceEqDiff, Nat.reduceLeDiff, Nat.reduceLT, reduceCtorEq, Nat.succ_eq_add_one]
         refine ⟨by decide, ?_⟩
         refine goIf_split (fun h6 => ?_) (fun h6 => ?_) <;> simp only [h6, go_sem, reduceIte, Nat.reduceAdd, Nat.reduceMul, Nat.reduceSub, Nat.reduceEqDiff, Nat.reduceLeDiff, Nat.reduceLT, reduceCtorEq, Nat.succ_eq_add_one]
         · have hj : j.1 < 1 + (byteAt b p).toNat / 16 % 3 := by simp only [decide_eq_true_eq] at h6; omega
           refine goCall1 (b := 0) (fn106 b _ hb) ⟨rfl, trivial⟩ rfl rfl rfl rfl ?_
           simp only [go_sem, reduceIte, Nat.reduceAdd, Nat.reduceMul, Nat.reduceSub, Nat.reduceEqDiff, Nat.reduceLeDiff, Nat.reduceLT, reduceCtorEq, Nat.succ_eq_add_one]
           refine goCall1 (b := 0) (fn106 b _ hb) ⟨rfl, trivial⟩ rfl rfl rfl rfl ?_
           simp only [go_sem, reduceIte, Nat.reduceAdd, Nat.reduceMul, Nat.reduceSub, Nat.reduceEqDiff, Nat.reduceLeDiff, Nat.reduceLT, reduceCtorEq, Nat.succ_eq_add_one]
           refine ⟨by decide, ?_⟩
           refine goIf_split (fun h7 => ?_) (fun h7 => ?_) <;> simp only [h7, go_sem, reduceIte, Nat.reduceAdd, Nat.reduceMul, Nat.reduceSub, Nat.reduceEqDiff, Nat.reduceLeDiff, Nat.reduceLT, reduceCtorEq, Nat.succ_eq_add_one]
           · have h8 : refVar b (refs b (stepAt b (stepAt b p)) j.1).2 = 7 := by simp only [refVar]; simp only [beq_iff_eq] at h7; omega
             refine goCallD1 (b := 0) (fn106 b _ hb) ⟨rfl, trivial⟩ rfl rfl rfl rfl ?_
             simp only [Int.toNat_natCast, List.replicate, List.set, go_sem, reduceIte, Nat.reduceAdd, Nat.reduceMul, Nat.reduceSub, Nat.reduceEqDiff, Nat.reduceLeDiff, Nat.reduceLT, reduceCtorEq, Nat.succ_eq_add_one]
             refine ⟨by decide, rfl, ?_⟩
             refine goCallD1 (b := 0) (fn106 b _ hb) ⟨rfl, trivial⟩ rfl rfl rfl rfl ?_
             simp only [Int.toNat_natCast, List.replicate, List.set, go_sem, reduceIte, Nat.reduceAdd, Nat.reduceMul, Nat.reduceSub, Nat.reduceEqDiff, Nat.reduceLeDiff, Nat.reduceLT, reduceCtorEq, Nat.succ_eq_add_one]
             refine ⟨by decide, rfl, ?_⟩
             refine goCallD1 (b := 0) (fn106 b _ hb) ⟨rfl, trivial⟩ rfl rfl rfl rfl ?_
             simp only [Int.toNat_natCast, List.replicate, List.set, go_sem, reduceIte, Nat.reduceAdd, Nat.reduceMul, Nat.reduceSub, Nat.reduceEqDiff, Nat.reduceLeDiff, Nat.reduceLT, reduceCtorEq, Nat.succ_eq_add_one]
             refine ⟨by decide, rfl, ?_⟩
             refine goE_wk [(0, .ptr 0 0), (2, .ptr 8 0), (5, I ((byteAt b p).toNat / 16 : Nat)), (6, .ptr 128 0), (8, I j.1), (143, .own 9 3 0 j.1),
               (144, .agg [I (byteAt b (refs b (stepAt b (stepAt b p)) j.1).2).toNat, I ((byteAt b (stepAt b (refs b (stepAt b (stepAt b p)) j.1).2)).toNat % 8 : Nat), bsl [byteAt b (stepAt b (stepAt b (refs b (stepAt b (stepAt b p)) j.1).2)), byteAt b (stepAt b (stepAt b (stepAt b (refs b (stepAt b (stepAt b p)) j.1).2))), byteAt b (stepAt b (stepAt b (stepAt b (stepAt b (refs b (stepAt b (stepAt b p)) j.1).2))))]])]
               [(0, .box [bsl b, I (stepAt b (stepAt b (stepAt b (stepAt b (stepAt b (refs b (stepAt b (stepAt b p)) j.1).2)))))]), (8, .box [Z, Z, Z, Z, Z, Z, Z, Z, Z, Nl, Nl, Nl]), (128, .box [I (3 : Nat), Z, Z, I (((byteAt b p).toNat % 16 : Nat) - 6), Z, Z, I ((byteAt b (stepAt b p)).toNat), Z, Z, Nl, Nl, .own 9 3 0 j.1]), (9, .row 79 3 (refs b (stepAt b (stepAt b p)) j.1).1)]
               (WkTH.mk [(0, 0), (8, 8), (128, 128), (9, 9)] rfl rfl ?_ ?_) ?_ rfl
             · simp only [rv, go_sem, reduceIte, Nat.reduceAdd, Nat.reduceMul, Nat.reduceSub, Nat.reduceEqDiff, Nat.reduceLeDiff, Nat.reduceLT, reduceCtorEq, Nat.succ_eq_add_one]
             · simp only [rv, encB, go_sem, reduceIte, Nat.reduceAdd, Nat.reduceMul, Nat.reduceSub, Nat.reduceEqDiff, Nat.reduceLeDiff, Nat.reduceLT, reduceCtorEq, Nat.succ_eq_add_one]
               simp
             · simp only [List.replicate, List.set, w64_succ (show j.1 ≤ 100000 by omega), go_sem, reduceIte, Nat.reduceAdd, Nat.reduceMul, Nat.reduceSub, Nat.reduceEqDiff, Nat.reduceLeDiff, Nat.reduceLT, reduceCtorEq, Nat.succ_eq_add_one]
               refine ⟨⟨by omega, by unfold maxLen; omega, by omega⟩, hB _ ⟨j.1 + 1, by omega⟩ (by simp only; omega) (Wk.mk [(0, 0), (8, 8), (128, 128), (9, 1392)] [] rfl rfl ?_ ?_ ?_)⟩
               · simp only [loopD, refs, refC, refEnd, rawA, if_pos h8]
                 simp only [refVar, rv, List.cons_append, List.nil_append, go_sem, reduceIte, Nat.reduceAdd, Nat.reduceMul, Nat.reduceSub, Nat.reduceEqDiff, Nat.reduceLeDiff, Nat.reduceLT, reduceCtorEq, Nat.succ_eq_add_one]
               · simp only [go_sem, reduceIte, Nat.reduceAdd, Nat.reduceMul, Nat.reduceSub, Nat.reduceEqDiff, Nat.reduceLeDiff, Nat.reduceLT, reduceCtorEq, Nat.succ_eq_add_one]
               · simp only [loopD, refs, rv, List.cons_append, List.nil_append, go_sem, reduceIte, Nat.reduceAdd, Nat.reduceMul, Nat.reduceSub, Nat.reduceEqDiff, Nat.reduceLeDiff, Nat.reduceLT, reduceCtorEq, Nat.succ_eq_add_one]
           · have h8 : ¬ refVar b (refs b (stepAt b (stepAt b p)) j.1).2 = 7 := by simp only [refVar]; simp only [beq_eq_false_iff_ne, ne_eq] at h7; omega
             simp only [List.replicate, List.set, w64_succ (show j.1 ≤ 100000 by omega), go_sem, reduceIte, Nat.reduceAdd, Nat.reduceMul, Nat.reduceSub, Nat.reduceEqDiff, Nat.reduceLeDiff, Nat.reduceLT, reduceCtorEq, Nat.succ_eq_add_one]
             refine ⟨⟨by omega, by unfold maxLen; omega, by omega⟩, hB _ ⟨j.1 + 1, by omega⟩ (by simp only; omega) (Wk.mk [(0, 0), (8, 8), (128, 128), (9, 1176)] [] rfl rfl ?_ ?_ ?_)⟩
             · simp only [loopD, refs, refC, refEnd, rawA, if_neg h8]
               simp only [refVar, rv, List.cons_append, List.nil_append, go_sem, reduceIte, Nat.reduceAdd, Nat.reduceMul, Nat.reduceSub, Nat.reduceEqDiff, Nat.reduceLeDiff, Nat.reduceLT, reduceCtorEq, Nat.succ_eq_add_one]
             · simp only [go_sem, reduceIte, Nat.reduceAdd, Nat.reduceMul, Nat.reduceSub, Nat.reduceEqDiff, Nat.reduceLeDiff, Nat.reduceLT, reduceCtorEq, Nat.succ_eq_add_one]
             · simp only [loopD, refs, rv, List.cons_append, List.nil_append, go_sem, reduceIte, Nat.reduceAdd, Nat.reduceMul, Nat.reduceSub, Nat.reduceEqDiff, Nat.reduceLeDiff, Nat.reduceLT, reduceCtorEq, Nat.succ_eq_add_one]
         · have hj : j.1 = 1 + (byteAt b p).toNat / 16 % 3 := by
             have := j.2
             simp only [decide_eq_false_iff_not] at h6
             omega
           have hop : (((byteAt b p).toNat % 16 - 6 : Nat) : Int) = (((byteAt b p).toNat % 16 : Nat) : Int) - 6 := by omega
           refine Fin.mk1 _ rfl rfl rfl (rvL_eq ?_ rfl) ?_
           · simp only [cmdE, if_neg e1, if_neg e2, if_neg e3, if_neg e4, if_pos e11, hj]
           · simp only [cmdL, if_neg e1, if_neg e2, if_neg e3, if_neg e4, if_pos e11, cmdC, rv, hj, hop, e13, go_sem, reduceIte, Nat.reduceAdd, Nat.reduceMul, Nat.reduceSub, Nat.reduceEqDiff, Nat.reduceLeDiff, Nat.reduceLT, reduceCtorEq, Nat.succ_eq_add_one]
             exact ⟨rfl, rfl, rfl, rfl, rfl, rfl, rfl, by simp, Nat.le_refl _⟩)
    | (have e11 : ¬ (byteAt b p).toNat % 16 = 11 := by omega
       have e12 : (byteAt b p).toNat % 16 ≤ 11 := by omega
       have e13 : True := trivial
       refine go_loop (loopD b (stepAt b p) ((byteAt b p).toNat / 16) (((byteAt b p).toNat % 16 : Nat) - 6) 0) (fun j => 1 + (byteAt b p).toNat / 16 % 3 - j.1) ⟨0, by omega⟩ ?_ ?_
       · refine Wk.mk [(0, 0), (8, 8), (128, 128)] [9] rfl rfl ?_ ?_ ?_
         · simp only [loopD, refs, rv, go_sem, reduceIte, Nat.reduceAdd, Nat.reduceMul, Nat.reduceSub, Nat.reduceEqDiff, Nat.reduceLeDiff, Nat.reduceLT, reduceCtorEq, Nat.succ_eq_add_one]
           exact ⟨rfl, by simp⟩
         · simp only [loopD, refs, go_sem, reduceIte, Nat.reduceAdd, Nat.reduceMul, Nat.reduceSub, Nat.reduceEqDiff, Nat.reduceLeDiff, Nat.reduceLT, reduceCtorEq, Nat.succ_eq_add_one]
         · simp only [loopD, rv, go_sem, reduceIte, Nat.reduceAdd, Nat.reduceMul, Nat.reduceSub, Nat.reduceEqDiff, Nat.reduceLeDiff, Nat.reduceLT, reduceCtorEq, Nat.succ_eq_add_one]
           rfl
       · intro j B hB
         simp only [loopD, go_sem, reduceIte, Nat.reduceAdd, Nat.reduceMul, Nat.reduceSub, Nat.reduceEqDiff, Nat.reduceLeDiff, Nat.reduceLT, reduceCtorEq, Nat.succ_eq_add_one]
         refine ⟨by decide, ?_⟩
         refine goIf_split (fun h6 => ?_) (fun h6 => ?_) <;> simp only [h6, go_sem, reduceIte, Nat.reduceAdd, Nat.reduceMul, Nat.reduceSub, Nat.reduceEqDiff, Nat.reduceLeDiff, Nat.reduceLT, reduceCtorEq, Nat.succ_eq_add_one]
         · have hj : j.1 < 1 + (byteAt b p).toNat / 16 % 3 := by simp only [decide_eq_true_eq] at h6; omega
           refine goCall1 (b := 0) (fn106 b _ hb) ⟨rfl, trivial⟩ rfl rfl rfl rfl ?_
           simp only [go_sem, reduceIte, Nat.reduceAdd, Nat.reduceMul, Nat.reduceSub, Nat.reduceEqDiff, Nat.reduceLeDiff, Nat.reduceLT, reduceCtorEq, Nat.succ_eq_add_one]
           refine goCall1 (b := 0) (fn106 b _ hb) ⟨rfl, trivial⟩ rfl rfl rfl rfl ?_
           simp only [go_sem, reduceIte, Nat.reduceAdd, Nat.reduceMul, Nat.reduceSub, Nat.reduceEqDiff, Nat.reduceLeDiff, Nat.reduceLT, reduceCtorEq, Nat.succ_eq_add_one]
           refine ⟨by decide, ?_⟩
           refine goIf_split (fun h7 => ?_) (fun h7 => ?_) <;> simp only [h7, go_sem, reduceIte, Nat.reduceAdd, Nat.reduceMul, Nat.reduceSub, Nat.reduceEqDiff, Nat.reduceLeDiff, Nat.reduceLT, reduceCtorEq, Nat.succ_eq_add_one]
           · have h8 : refVar b (refs b (stepAt b p) j.1).2 = 7 := by simp only [refVar]; simp only [beq_iff_eq] at h7; omega
             refine goCallD1 (b := 0) (fn106 b _ hb) ⟨rfl, trivial⟩ rfl rfl rfl rfl ?_
             simp only [Int.toNat_natCast, List.replicate, List.set, go_sem, reduceIte, Nat.reduceAdd, Nat.reduceMul, Nat.reduceSub, Nat.reduceEqDiff, Nat.reduceLeDiff, Nat.reduceLT, reduceCtorEq, Nat.succ_eq_add_one]
             refine ⟨by decide, rfl, ?_⟩
             refine goCallD1 (b := 0) (fn106 b _ hb) ⟨rfl, trivial⟩ rfl rfl rfl rfl ?_
             simp only [Int.toNat_natCast, List.replicate, List.set, go_sem, reduceIte, Nat.reduceAdd, Nat.reduceMul, Nat.reduceSub, Nat.reduceEqDiff, Nat.reduceLeDiff, Nat.reduceLT, reduceCtorEq, Nat.succ_eq_add_one]
             refine ⟨by decide, rfl, ?_⟩
             refine goCallD1 (b := 0) (fn106 b _ hb) ⟨rfl, trivial⟩ rfl rfl rfl rfl ?_
             simp only [Int.toNat_natCast, List.replicate, List.set, go_sem, reduceIte, Nat.reduceAdd, Nat.reduceMul, Nat.reduceSub, Nat.reduceEqDiff, Nat.reduceLeDiff, Nat.reduceLT, reduceCtorEq, Nat.succ_eq_add_one]
             refine ⟨by decide, rfl, ?_⟩
             refine goE_wk [(0, .ptr 0 0), (2, .ptr 8 0), (5, I ((byteAt b p).toNat / 16 : Nat)), (6, .ptr 128 0), (8, I j.1), (143, .own 9 3 0 j.1),
               (144, .agg [I (byteAt b (refs b (stepAt b p) j.1).2).toNat, I ((byteAt b (stepAt b (refs b (stepAt b p) j.1).2)).toNat % 8 : Nat), bsl [byteAt b (stepAt b (stepAt b (refs b (stepAt b p) j.1).2)), byteAt b (stepAt b (stepAt b (stepAt b (refs b (stepAt b p) j.1).2))), byteAt b (stepAt b (stepAt b (stepAt b (stepAt b (refs b (stepAt b p) j.1).2))))]])]
               [(0, .box [bsl b, I (stepAt b (stepAt b (stepAt b (stepAt b (stepAt b (refs b (stepAt b p) j.1).2)))))]), (8, .box [Z, Z, Z, Z, Z, Z, Z, Z, Z, Nl, Nl, Nl]), (128, .box [I (3 : Nat), Z, Z, I (((byteAt b p).toNat % 16 : Nat) - 6), Z, Z, I (0 : Nat), Z, Z, Nl, Nl, .own 9 3 0 j.1]), (9, .row 79 3 (refs b (stepAt b p) j.1).1)]
               (WkTH.mk [(0, 0), (8, 8), (128, 128), (9, 9)] rfl rfl ?_ ?_) ?_ rfl
             · simp only [rv, go_sem, reduceIte, Nat.reduceAdd, Nat.reduceMul, Nat.reduceSub, Nat.reduceEqDiff, Nat.reduceLeDiff, Nat.reduceLT, reduceCtorEq, Nat.succ_eq_add_one]
             · simp only [rv, encB, go_sem, reduceIte, Nat.reduceAdd, Nat.reduceMul, Nat.reduceSub, Nat.reduceEqDiff, Nat.reduceLeDiff, Nat.reduceLT, reduceCtorEq, Nat.succ_eq_add_one]
               simp
             · simp only [List.replicate, List.set, w64_succ (show j.1 ≤ 100000 by omega), go_sem, reduceIte, Nat.reduceAdd, Nat.reduceMul, Nat.reduceSub, Nat.reduceEqDiff, Nat.reduceLeDiff, Nat.reduceLT, reduceCtorEq, Nat.succ_eq_add_one]
               refine ⟨⟨by omega, by unfold maxLen; omega, by omega⟩, hB _ ⟨j.1 + 1, by omega⟩ (by simp only; omega) (Wk.mk [(0, 0), (8, 8), (128, 128), (9, 1392)] [] rfl rfl ?_ ?_ ?_)⟩
               · simp only [loopD, refs, refC, refEnd, rawA, if_pos h8]
                 simp only [refVar, rv, List.cons_append, List.nil_append, go_sem, reduceIte, Nat.reduceAdd, Nat.reduceMul, Nat.reduceSub, Nat.reduceEqDiff, Nat.reduceLeDiff, Nat.reduceLT, reduceCtorEq, Nat.succ_eq_add_one]
               · simp only [go_sem, reduceIte, Nat.reduceAdd, Nat.reduceMul, Nat.reduceSub, Nat.reduceEqDiff, Nat.reduceLeDiff, Nat.reduceLT, reduceCtorEq, Nat.succ_eq_add_one]
               · simp only [loopD, refs, rv, List.cons_append, List.nil_append, go_sem, reduceIte, Nat.reduceAdd, Nat.reduceMul, Nat.reduceSub, Nat.reduceEqDiff, Nat.reduceLeDiff, Nat.reduceLT, reduceCtorEq, Nat.succ_eq_add_one]
           · have h8 : ¬ refVar b (refs b (stepAt b p) j.1).2 = 7 := by simp only [refVar]; simp only [beq_eq_false_iff_ne, ne_eq] at h7; omega
             simp only [List.replicate, List.set, w64_succ (show j.1 ≤ 100000 by omega), go_sem, reduceIte, Nat.reduceAdd, Nat.reduceMul, Nat.reduceSub, Nat.reduceEqDiff, Nat.reduceLeDiff, Nat.reduceLT, reduceCtorEq, Nat.succ_eq_add_one]
             refine ⟨⟨by omega, by unfold maxLen; omega, by omega⟩, hB _ ⟨j.1 + 1, by omega⟩ (by simp only; omega) (Wk.mk [(0, 0), (8, 8), (128, 128), (9, 1176)] [] rfl rfl ?_ ?_ ?_)⟩
             · simp only [loopD, refs, refC, refEnd, rawA, if_neg h8]
               simp only [refVar, rv, List.cons_append, List.nil_append, go_sem, reduceIte, Nat.reduceAdd, Nat.reduceMul, Nat.reduceSub, Nat.reduceEqDiff, Nat.reduceLeDiff, Nat.reduceLT, reduceCtorEq, Nat.succ_eq_add_one]
             · simp only [go_sem, reduceIte, Nat.reduceAdd, Nat.reduceMul, Nat.reduceSub, Nat.reduceEqDiff, Nat.reduceLeDiff, Nat.reduceLT, reduceCtorEq, Nat.succ_eq_add_one]
             · simp only [loopD, refs, rv, List.cons_append, List.nil_append, go_sem, reduceIte, Nat.reduceAdd, Nat.reduceMul, Nat.reduceSub, Nat.reduceEqDiff, Nat.reduceLeDiff, Nat.reduceLT, reduceCtorEq, Nat.succ_eq_add_one]
         · have hj : j.1 = 1 + (byteAt b p).toNat / 16 % 3 := by
             have := j.2
             simp only [decide_eq_false_iff_not] at h6
             omega
           have hop : (((byteAt b p).toNat % 16 - 6 : Nat) : Int) = (((byteAt b p).toNat % 16 : Nat) : Int) - 6 := by omega
           refine Fin.mk1 _ rfl rfl rfl (rvL_eq ?_ rfl) ?_
           · simp only [cmdE, if_neg e1, if_neg e2, if_neg e3, if_neg e4, if_neg e11, if_pos e12, hj]
           · simp only [cmdL, if_neg e1, if_neg e2, if_neg e3, if_neg e4, if_neg e11, if_pos e12, cmdC, rv, hj, hop, e13, go_sem, reduceIte, Nat.reduceAdd, Nat.reduceMul, Nat.reduceSub, Nat.reduceEqDiff, Nat.reduceLeDiff, Nat.reduceLT, reduceCtorEq, Nat.succ_eq_add_one]
             exact ⟨rfl, rfl, rfl, rfl, rfl, rfl, by simp, Nat.le_refl _⟩)
    | skip
  · -- 12
    have e12 : (byteAt b p).toNat % 16 = 12 := by omega
    have hq : (byteAt b p).toNat / 16 % 3 = 0 ∨ (byteAt b p).toNat / 16 % 3 = 1 ∨ (byteAt b p).toNat / 16 % 3 = 2 := by omega
    rcases hq with hq | hq | hq
    all_goals simp only [hq, Int.toNat_natCast, List.replicate, List.set, nth, Option.getD_some, c02, c12, c22, go_sem, reduceIte, Nat.reduceAdd, Nat.reduceMul, Nat.reduceSub, Nat.reduceEqDiff, Nat.reduceLeDiff, Nat.reduceLT, reduceCtorEq, Nat.succ_eq_add_one]
    all_goals refine ⟨by decide, by decide, by decide, ?_⟩
    all_goals have n11 : ¬ (byteAt b p).toNat % 16 = 11 := by omega
    all_goals have m11 : ¬ (byteAt b p).toNat % 16 ≤ 11 := by omega
    · refine Fin.mk1 _ rfl rfl rfl (rvL_eq ?_ rfl) (rv_eq ?_ rfl)
      · simp only [cmdE, if_neg e1, if_neg e2, if_neg e3, if_neg e4, if_neg n11, if_neg m11, othE, if_pos e12, hq, Nat.reduceEqDiff, reduceIte, Nat.one_ne_zero]
      · simp only [cmdL, if_neg e1, if_neg e2, if_neg e3, if_neg e4, if_neg n11, if_neg m11, othC, if_pos e12, hq, Nat.reduceEqDiff, reduceIte, Nat.one_ne_zero, cmdC]; rfl
    · refine Fin.mk1 _ rfl rfl rfl (rvL_eq ?_ rfl) (rv_eq ?_ rfl)
      · simp only [cmdE, if_neg e1, if_neg e2, if_neg e3, if_neg e4, if_neg n11, if_neg m11, othE, if_pos e12, hq, Nat.reduceEqDiff, reduceIte, Nat.one_ne_zero]
      · simp only [cmdL, if_neg e1, if_neg e2, if_neg e3, if_neg e4, if_neg n11, if_neg m11, othC, if_pos e12, hq, Nat.reduceEqDiff, reduceIte, Nat.one_ne_zero, cmdC]; rfl
    · refine goCall1 (b := 0) (fn106 b _ hb) ⟨rfl, trivial⟩ rfl rfl rfl rfl ?_; simp only [go_sem, reduceIte, Nat.reduceAdd, Nat.reduceMul, Nat.reduceSub, Nat.reduceEqDiff, Nat.reduceLeDiff, Nat.reduceLT, reduceCtorEq, Nat.succ_eq_add_one]
      refine ⟨by decide, ?_⟩
      refine goCall1 (b := 0) (fn106 b _ hb) ⟨rfl, trivial⟩ rfl rfl rfl rfl ?_; simp only [go_sem, reduceIte, Nat.reduceAdd, Nat.reduceMul, Nat.reduceSub, Nat.reduceEqDiff, Nat.reduceLeDiff, Nat.reduceLT, reduceCtorEq, Nat.succ_eq_add_one]
      refine ⟨by decide, ?_⟩
      refine Fin.mk1 _ rfl rfl rfl (rvL_eq ?_ rfl) (rv_eq ?_ rfl)
      · simp only [cmdE, if_neg e1, if_neg e2, if_neg e3, if_neg e4, if_neg n11, if_neg m11, othE, if_pos e12, hq, Nat.reduceEqDiff, reduceIte, Nat.one_ne_zero]
      · simp only [cmdL, if_neg e1, if_neg e2, if_neg e3, if_neg e4, if_neg n11, if_neg m11, othC, if_pos e12, hq, Nat.reduceEqDiff, reduceIte, Nat.one_ne_zero, cmdC]; rfl
  · -- 13
    have e12 : (byteAt b p).toNat % 16 = 13 := by omega
    have n11 : ¬ (byteAt b p).toNat % 16 = 11 := by omega
    have m11 : ¬ (byteAt b p).toNat % 16 ≤ 11 := by omega
    refine Fin.mk1 _ rfl rfl rfl (rvL_eq ?_ rfl) (rv_eq ?_ rfl)
    · simp only [cmdE, if_neg e1, if_neg e2, if_neg e3, if_neg e4, if_neg n11, if_neg m11, othE]
      rw [if_neg (by omega), if_pos e12]
    · simp only [cmdL, if_neg e1, if_neg e2, if_neg e3, if_neg e4, if_neg n11, if_neg m11, othC]
      rw [if_neg (by omega), if_pos e12]; rfl
  · -- 14
    have e12 : (byteAt b p).toNat % 16 = 14 := by omega
    have n11 : ¬ (byteAt b p).toNat % 16 = 11 := by omega
    have m11 : ¬ (byteAt b p).toNat % 16 ≤ 11 := by omega
    refine Fin.mk1 _ rfl rfl rfl (rvL_eq ?_ rfl) (rv_eq ?_ rfl)
    · simp only [cmdE, if_neg e1, if_neg e2, if_neg e3, if_neg e4, if_neg n11, if_neg m11, othE]
      rw [if_neg (by omega), if_neg (by omega), if_pos e12]
    · simp only [cmdL, if_neg e1, if_neg e2, if_neg e3, if_neg e4, if_neg n11, if_neg m11, othC]
      rw [if_neg (by omega), if_neg (by omega), if_pos e12]; rfl
  · -- 15
    have hq : (byteAt b p).toNat / 16 % 3 = 0 ∨ (byteAt b p).toNat / 16 % 3 = 1 ∨ (byteAt b p).toNat / 16 % 3 = 2 := by omega
    rcases hq with hq | hq | hq
    all_goals simp only [hq, Int.toNat_natCast, List.replicate, List.set, nth, Option.getD_some, c02, c12, c22, go_sem, reduceIte, Nat.reduceAdd, Nat.reduceMul, Nat.reduceSub, Nat.reduceEqDiff, Nat.reduceLeDiff, Nat.reduceLT, reduceCtorEq, Nat.succ_eq_add_one]
    all_goals refine ⟨by decide, by decide, ?_⟩
    all_goals have n11 : ¬ (byteAt b p).toNat % 16 = 11 := by omega
    all_goals have m11 : ¬ (byteAt b p).toNat % 16 ≤ 11 := by omega
    all_goals have n12 : ¬ (byteAt b p).toNat % 16 = 12 := by omega
    all_goals have n13 : ¬ (byteAt b p).toNat % 16 = 13 := by omega
    all_goals have n14 : ¬ (byteAt b p).toNat % 16 = 14 := by omega
    all_goals (refine goCall1 (b := 0) (fn106 b _ hb) ⟨rfl, trivial⟩ rfl rfl rfl rfl ?_; simp only [go_sem, reduceIte, Nat.reduceAdd, Nat.reduceMul, Nat.reduceSub, Nat.reduceEqDiff, Nat.reduceLeDiff, Nat.reduceLT, reduceCtorEq, Nat.succ_eq_add_one])
    all_goals refine ⟨by decide, ?_⟩
    all_goals refine Fin.mk1 _ rfl rfl rfl (rvL_eq ?_ rfl) (rv_eq ?_ rfl)
    all_goals first
      | (simp only [cmdE, if_neg e1, if_neg e2, if_neg e3, if_neg e4, if_neg n11, if_neg m11, othE, if_neg n12, if_neg n13, if_neg n14]; done)
      | (simp only [cmdL, if_neg e1, if_neg e2, if_neg e3, if_neg e4, if_neg n11, if_neg m11, othC, if_neg n12, if_neg n13, if_neg n14, hq, cmdC]; rfl)
end Go.Eng.Scr
