/-
  Walks and plain lemmas for ScriptTokens: what the functions named below compute, over the abstract states of the engine.
  No condition beyond those that each theorem states.
-/
import Derived.Test.YteonhcjaekodkaaTok2
set_option linter.all false
set_option linter.unusedSimpArgs false
set_option maxRecDepth 20000
set_option maxHeartbeats 4000000
namespace Go.Eng
open Go Go.Proofs

def hN (id gen route hint : Nat) : Nat → Nat
  | 0 => id
  | 1 => gen
  | 2 => route
  | 3 => hint
  | _ => 0
def hS : Nat → Nat
  | 0 => 4
  | 1 => 3
  | 2 => 2
  | _ => 1
def hP (id gen route hint : Nat) : Nat → List UInt8
  | 0 => [113]
  | j + 1 => hP id gen route hint j ++ putB (hN id gen route hint j) (hS j)
theorem hP_len (id gen route hint : Nat) : ∀ j, (hP id gen route hint j).length ≤ 1 + 4 * j
  | 0 => by simp [hP]
  | j + 1 => by
    have := hP_len id gen route hint j
    have : hS j ≤ 4 := by unfold hS; split <;> omega
    simp [hP, putB_len]; omega
theorem hP5 (id gen route hint : Nat) : hP id gen route hint 5 = headB ⟨id, gen, route, hint⟩ := by
  simp [hP, hN, hS, headB, putB, be]

theorem fn100 (h : Hd) : Fn Try.prog 100 [.agg h.enc] [] (encR h) [] [] := by
  refine Fn.of_go ok100 (by simp) ?_
  unfold s100 encR Hd.enc
  by_cases hk : h.ok
  · rw [if_pos hk]
    obtain ⟨⟨a1, a2⟩, ⟨a3, a4⟩, ⟨a5, a6⟩, ⟨a7, a8⟩⟩ := hk
    obtain ⟨id, gen, route, hint⟩ := h
    simp only at a1 a2 a3 a4 a5 a6 a7 a8
    obtain ⟨id, rfl⟩ := Int.eq_ofNat_of_zero_le (show 0 ≤ id by omega)
    obtain ⟨gen, rfl⟩ := Int.eq_ofNat_of_zero_le (show 0 ≤ gen by omega)
    obtain ⟨route, rfl⟩ := Int.eq_ofNat_of_zero_le (show 0 ≤ route by omega)
    obtain ⟨hint, rfl⟩ := Int.eq_ofNat_of_zero_le (show 0 ≤ hint by omega)
    have c1 : btw (id : Int) 1 1073741824 = true := by simp [btw]; omega
    have c2 : btw (gen : Int) 1 65536 = true := by simp [btw]; omega
    have c3 : btw (route : Int) 0 65535 = true := by simp [btw]; omega
    have c4 : btw (hint : Int) 0 5 = true := by simp [btw]; omega
    simp only [Int.cast_ofNat_Int, Int.reduceBEq, Int.reduceLT, Int.reduceLE, Int.reduceSub, Int.reduceAdd, Int.reduceNeg, Int.reduceEq, Int.reduceToNat, decide_true, decide_false, decide_eq_true_eq, beq_self_eq_true, bne_self_eq_false, List.reduceReplicate, List.length_set, List.length_replicate, List.length_cons, List.length_nil, List.set_cons_zero, List.set_cons_succ, Int.toNat_natCast, go_sem, reduceIte, Nat.reduceAdd, Nat.reduceMul, Nat.reduceSub, Nat.reduceEqDiff, Nat.reduceLeDiff, Nat.reduceLT, reduceCtorEq, Nat.succ_eq_add_one]
    refine goCall0 (fn125 _ _ _) rfl rfl ?_; simp only [c1, Int.cast_ofNat_Int, Int.reduceBEq, Int.reduceLT, Int.reduceLE, Int.reduceSub, Int.reduceAdd, Int.reduceNeg, Int.reduceEq, Int.reduceToNat, decide_true, decide_false, decide_eq_true_eq, beq_self_eq_true, bne_self_eq_false, List.reduceReplicate, List.length_set, List.length_replicate, List.length_cons, List.length_nil, List.set_cons_zero, List.set_cons_succ, Int.toNat_natCast, go_sem, reduceIte, Nat.reduceAdd, Nat.reduceMul, Nat.reduceSub, Nat.reduceEqDiff, Nat.reduceLeDiff, Nat.reduceLT, reduceCtorEq, Nat.succ_eq_add_one]
    refine goCall0 (fn125 _ _ _) rfl rfl ?_; simp only [c2, Int.cast_ofNat_Int, Int.reduceBEq, Int.reduceLT, Int.reduceLE, Int.reduceSub, Int.reduceAdd, Int.reduceNeg, Int.reduceEq, Int.reduceToNat, decide_true, decide_false, decide_eq_true_eq, beq_self_eq_true, bne_self_eq_false, List.reduceReplicate, List.length_set, List.length_replicate, List.length_cons, List.length_nil, List.set_cons_zero, List.set_cons_succ, Int.toNat_natCast, go_sem, reduceIte, Nat.reduceAdd, Nat.reduceMul, Nat.reduceSub, Nat.reduceEqDiff, Nat.reduceLeDiff, Nat.reduceLT, reduceCtorEq, Nat.succ_eq_add_one]
    refine goCall0 (fn125 _ _ _) rfl rfl ?_; simp only [c3, Int.cast_ofNat_Int, Int.reduceBEq, Int.reduceLT, Int.reduceLE, Int.reduceSub, Int.reduceAdd, Int.reduceNeg, Int.reduceEq, Int.reduceToNat, decide_true, decide_false, decide_eq_true_eq, beq_self_eq_true, bne_self_eq_false, List.reduceReplicate, List.length_set, List.length_replicate, List.length_cons, List.length_nil, List.set_cons_zero, List.set_cons_succ, Int.toNat_natCast, go_sem, reduceIte, Nat.reduceAdd, Nat.reduceMul, Nat.reduceSub, Nat.reduceEqDiff, Nat.reduceLeDiff, Nat.reduceLT, reduceCtorEq, Nat.succ_eq_add_one]
    refine goCall0 (fn125 _ _ _) rfl rfl ?_; simp only [c4, Int.cast_ofNat_Int, Int.reduceBEq, Int.reduceLT, Int.reduceLE, Int.reduceSub, Int.reduceAdd, Int.reduceNeg, Int.reduceEq, Int.reduceToNat, decide_true, decide_false, decide_eq_true_eq, beq_self_eq_true, bne_self_eq_false, List.reduceReplicate, List.length_set, List.length_replicate, List.length_cons, List.length_nil, List.set_cons_zero, List.set_cons_succ, Int.toNat_natCast, go_sem, reduceIte, Nat.reduceAdd, Nat.reduceMul, Nat.reduceSub, Nat.reduceEqDiff, Nat.reduceLeDiff, Nat.reduceLT, reduceCtorEq, Nat.succ_eq_add_one]
    have e0 : [[AV.v (.int .u8 113)]] = encB [113] := rfl
    simp only [e0]
    refine go_loop (fun j : {j : Nat // j ≤ 5} => ⟨1000, [(4, .own 208 1 0 (hP id gen route hint j.1).length), (43, .agg [I id, I 4, I gen, I 3, I route, I 2, I hint, I 1, I 0, I 1]), (44, I j.1)], [(208, .row 5 1 (encB (hP id gen route hint j.1)))]⟩) (fun j => 5 - j.1) ⟨0, by omega⟩
      (Wk.mk [(208, 208)] [] rfl rfl (by simp only [rvH, rvO, rvL, rv, hP, go_sem, reduceIte, Nat.reduceAdd, Nat.reduceMul, Nat.reduceSub, Nat.reduceEqDiff, Nat.reduceLeDiff, Nat.reduceLT, reduceCtorEq, Nat.succ_eq_add_one]) (by simp only [go_sem, reduceIte, Nat.reduceAdd, Nat.reduceMul, Nat.reduceSub, Nat.reduceEqDiff, Nat.reduceLeDiff, Nat.reduceLT, reduceCtorEq, Nat.succ_eq_add_one]) (by simp only [rv, hP, go_sem, reduceIte, Nat.reduceAdd, Nat.reduceMul, Nat.reduceSub, Nat.reduceEqDiff, Nat.reduceLeDiff, Nat.reduceLT, reduceCtorEq, Nat.succ_eq_add_one]; simp)) ?_
    intro j B hB
    obtain ⟨j, hj⟩ := j
    simp only [go_sem, reduceIte, Nat.reduceAdd, Nat.reduceMul, Nat.reduceSub, Nat.reduceEqDiff, Nat.reduceLeDiff, Nat.reduceLT, reduceCtorEq, Nat.succ_eq_add_one]
    refine goIf_split (fun h2 => ?_) (fun h2 => ?_) <;> simp only [h2, go_sem, reduceIte, Nat.reduceAdd, Nat.reduceMul, Nat.reduceSub, Nat.reduceEqDiff, Nat.reduceLeDiff, Nat.reduceLT, reduceCtorEq, Nat.succ_eq_add_one]
    · have e7 : j < 5 := by simp only [decide_eq_true_eq] at h2; omega
      have hn : hN id gen route hint j < 2 ^ (8 * hS j) := by
        rcases (show j = 0 ∨ j = 1 ∨ j = 2 ∨ j = 3 ∨ j = 4 by omega) with rfl | rfl | rfl | rfl | rfl <;> simp [hN, hS] <;> omega
      have hs : 1 ≤ hS j ∧ hS j ≤ 4 := by rcases (show j = 0 ∨ j = 1 ∨ j = 2 ∨ j = 3 ∨ j = 4 by omega) with rfl | rfl | rfl | rfl | rfl <;> simp [hS]
      have hpl := hP_len id gen route hint j
      have e10 : IntKind.i64.wrap ((j : Int) + 1) = ((j + 1 : Nat) : Int) := w64_succ (by omega)
      have e11 : List.take 2 (List.drop (j * 2) [I id, I 4, I gen, I 3, I route, I 2, I hint, I 1, I 0, I 1]) = [I (hN id gen route hint j : Nat), I (hS j : Nat)] := by
        rcases (show j = 0 ∨ j = 1 ∨ j = 2 ∨ j = 3 ∨ j = 4 by omega) with rfl | rfl | rfl | rfl | rfl <;> rfl
      simp only [Int.toNat_natCast, e10, e11, oneL, Int.cast_ofNat_Int, Int.reduceBEq, Int.reduceLT, Int.reduceLE, Int.reduceSub, Int.reduceAdd, Int.reduceNeg, Int.reduceEq, Int.reduceToNat, decide_true, decide_false, decide_eq_true_eq, beq_self_eq_true, bne_self_eq_false, List.reduceReplicate, List.length_set, List.length_replicate, List.length_cons, List.length_nil, List.set_cons_zero, List.set_cons_succ, Int.toNat_natCast, go_sem, reduceIte, Nat.reduceAdd, Nat.reduceMul, Nat.reduceSub, Nat.reduceEqDiff, Nat.reduceLeDiff, Nat.reduceLT, reduceCtorEq, Nat.succ_eq_add_one]
      refine ⟨⟨by omega, by omega, by omega⟩, ?_⟩
      refine goCallSE (fn126e (hP id gen route hint j) (hN id gen route hint j) (hS j) (by omega) hs hn) (by simp [rvL, rv, get, encB_len, encB_tk rfl]) rfl (encB_na _) (by simp) rfl rfl ?_
      simp only [obsFrom, sh, e10, Int.cast_ofNat_Int, Int.reduceBEq, Int.reduceLT, Int.reduceLE, Int.reduceSub, Int.reduceAdd, Int.reduceNeg, Int.reduceEq, Int.reduceToNat, decide_true, decide_false, decide_eq_true_eq, beq_self_eq_true, bne_self_eq_false, List.reduceReplicate, List.length_set, List.length_replicate, List.length_cons, List.length_nil, List.set_cons_zero, List.set_cons_succ, Int.toNat_natCast, go_sem, reduceIte, Nat.reduceAdd, Nat.reduceMul, Nat.reduceSub, Nat.reduceEqDiff, Nat.reduceLeDiff, Nat.reduceLT, reduceCtorEq, Nat.succ_eq_add_one]
      refine hB _ ⟨j + 1, e7⟩ (by simp only; omega) (Wk.mk [(208, 1072)] [] rfl rfl (by simp only [rvH, rvO, rvL, rv, hP, go_sem, reduceIte, Nat.reduceAdd, Nat.reduceMul, Nat.reduceSub, Nat.reduceEqDiff, Nat.reduceLeDiff, Nat.reduceLT, reduceCtorEq, Nat.succ_eq_add_one]) (by simp only [go_sem, reduceIte, Nat.reduceAdd, Nat.reduceMul, Nat.reduceSub, Nat.reduceEqDiff, Nat.reduceLeDiff, Nat.reduceLT, reduceCtorEq, Nat.succ_eq_add_one]) (by simp only [rv, hP, List.length_append, putB_len, go_sem, reduceIte, Nat.reduceAdd, Nat.reduceMul, Nat.reduceSub, Nat.reduceEqDiff, Nat.reduceLeDiff, Nat.reduceLT, reduceCtorEq, Nat.succ_eq_add_one]))
    · have e7 : j = 5 := by simp only [decide_eq_false_iff_not] at h2; omega
      subst e7
      have hl := headB_len ⟨id, gen, route, hint⟩
      have ht : tokB ⟨id, gen, route, hint⟩ = headB ⟨id, gen, route, hint⟩ ++ putB (chk (headB ⟨id, gen, route, hint⟩)) 4 := rfl
      rw [ht]
      have hc := chk_lt (headB ⟨id, gen, route, hint⟩)
      simp only [hP5, go_sem, reduceIte, Nat.reduceAdd, Nat.reduceMul, Nat.reduceSub, Nat.reduceEqDiff, Nat.reduceLeDiff, Nat.reduceLT, reduceCtorEq, Nat.succ_eq_add_one]
      generalize headB ⟨id, gen, route, hint⟩ = hb at hl hc ⊢
      refine goCallS0 (fn127 hb (by omega)) (by simp [rvL, rv, get, encB_len, hl, encB_tk hl]) rfl rfl ?_
      simp only [Int.cast_ofNat_Int, Int.reduceBEq, Int.reduceLT, Int.reduceLE, Int.reduceSub, Int.reduceAdd, Int.reduceNeg, Int.reduceEq, Int.reduceToNat, decide_true, decide_false, decide_eq_true_eq, beq_self_eq_true, bne_self_eq_false, List.reduceReplicate, List.length_set, List.length_replicate, List.length_cons, List.length_nil, List.set_cons_zero, List.set_cons_succ, Int.toNat_natCast, go_sem, reduceIte, Nat.reduceAdd, Nat.reduceMul, Nat.reduceSub, Nat.reduceEqDiff, Nat.reduceLeDiff, Nat.reduceLT, reduceCtorEq, Nat.succ_eq_add_one]
      refine goCallSE (fn126e hb (chk hb) 4 (by omega) (by omega) (by omega)) (by simp [rvL, rv, get, encB_len, hl, encB_tk hl]) rfl (encB_na _) (by simp) rfl (by simp [expA, expL, hl]; rfl) ?_
      simp only [obsFrom, sh, hl, Int.cast_ofNat_Int, Int.reduceBEq, Int.reduceLT, Int.reduceLE, Int.reduceSub, Int.reduceAdd, Int.reduceNeg, Int.reduceEq, Int.reduceToNat, decide_true, decide_false, decide_eq_true_eq, beq_self_eq_true, bne_self_eq_false, List.reduceReplicate, List.length_set, List.length_replicate, List.length_cons, List.length_nil, List.set_cons_zero, List.set_cons_succ, Int.toNat_natCast, go_sem, reduceIte, Nat.reduceAdd, Nat.reduceMul, Nat.reduceSub, Nat.reduceEqDiff, Nat.reduceLeDiff, Nat.reduceLT, reduceCtorEq, Nat.succ_eq_add_one]
      exact Fin.mk0 _ rfl rfl (by simp [retOne, rv, rvL, get, encB_len, putB_len, hl]; exact (encB_tk (by simp [putB_len, hl])).symm)
  · rw [if_neg hk]
    simp only [Int.cast_ofNat_Int, Int.reduceBEq, Int.reduceLT, Int.reduceLE, Int.reduceSub, Int.reduceAdd, Int.reduceNeg, Int.reduceEq, Int.reduceToNat, decide_true, decide_false, decide_eq_true_eq, beq_self_eq_true, bne_self_eq_false, List.reduceReplicate, List.length_set, List.length_replicate, List.length_cons, List.length_nil, List.set_cons_zero, List.set_cons_succ, Int.toNat_natCast, go_sem, reduceIte, Nat.reduceAdd, Nat.reduceMul, Nat.reduceSub, Nat.reduceEqDiff, Nat.reduceLeDiff, Nat.reduceLT, reduceCtorEq, Nat.succ_eq_add_one]
    repeat' first
      | (exfalso; simp only [Bool.not_eq_false', btw, Bool.and_eq_true, decide_eq_true_eq] at *; exact hk ⟨⟨by omega, by omega⟩, ⟨by omega, by omega⟩, ⟨by omega, by omega⟩, ⟨by omega, by omega⟩⟩)
      | (refine goG_split (fun h1 => ?_) (fun h1 => ?_) <;> simp only [h1, go_sem, reduceIte, Nat.reduceAdd, Nat.reduceMul, Nat.reduceSub, Nat.reduceEqDiff, Nat.reduceLeDiff, Nat.reduceLT, reduceCtorEq, Nat.succ_eq_add_one])
      | (refine goIf_split (fun h1 => ?_) (fun h1 => ?_) <;> simp only [h1, go_sem, reduceIte, Nat.reduceAdd, Nat.reduceMul, Nat.reduceSub, Nat.reduceEqDiff, Nat.reduceLeDiff, Nat.reduceLT, reduceCtorEq, Nat.succ_eq_add_one])
      | (refine goCall0 (fn125 _ _ _) rfl rfl ?_; simp only [go_sem, reduceIte, Nat.reduceAdd, Nat.reduceMul, Nat.reduceSub, Nat.reduceEqDiff, Nat.reduceLeDiff, Nat.reduceLT, reduceCtorEq, Nat.succ_eq_add_one])
      | exact Fin.eq0 _ rfl rfl rfl rfl
end Go.Eng
