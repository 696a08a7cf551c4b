/-
  Walks and plain lemmas for ScriptTokens: what the functions named below compute, over the abstract states of the engine.
  No condition beyond those that each theorem states.
-/
import Derived.Test.YteonhcjaekodkaaTokS7
set_option linter.all false
set_option linter.unusedSimpArgs false
set_option maxRecDepth 20000
set_option maxHeartbeats 4000000
namespace Go.Eng.Scr
open Go Go.Proofs

structure DS (b : List UInt8) where
  rows : List (List AV)
  p : Nat
  j : Nat
  hl : rows.length = j
  hj : j ≤ 400
  hd : decodeL b = rows ++ dec b (400 - j) p

def loopE (b : List UInt8) (s : DS b) : St :=
  ⟨1000, [(0, bsl b), (3, .ptr 32 0), (4, .own 9 12 0 s.j)], [(32, .box [bsl b, I s.p]), (9, .row 32 12 s.rows)]⟩

theorem fn15 (b : List UInt8) (hb : b.length ≤ 100000) : Fn Try.prog 15 [bsl b] [] (.sl 12 (decodeL b)) [] [] := by
  refine Fn.of_go ok15 (by simp) ?_
  unfold s15
  simp only [go_sem, reduceIte, Nat.reduceAdd, Nat.reduceMul, Nat.reduceSub, Nat.reduceEqDiff, Nat.reduceLeDiff, Nat.reduceLT, reduceCtorEq, Nat.succ_eq_add_one]
  refine go_loop (loopE b) (fun s => 400 - s.j) ⟨[], 0, 0, rfl, by omega, rfl⟩ ?_ ?_
  · refine Wk.mk [(32, 32)] [9] rfl rfl ?_ ?_ ?_
    · simp only [loopE, rv, go_sem, reduceIte, Nat.reduceAdd, Nat.reduceMul, Nat.reduceSub, Nat.reduceEqDiff, Nat.reduceLeDiff, Nat.reduceLT, reduceCtorEq, Nat.succ_eq_add_one]
      rfl
    · simp only [loopE, go_sem, reduceIte, Nat.reduceAdd, Nat.reduceMul, Nat.reduceSub, Nat.reduceEqDiff, Nat.reduceLeDiff, Nat.reduceLT, reduceCtorEq, Nat.succ_eq_add_one]
    · simp only [loopE, rv, go_sem, reduceIte, Nat.reduceAdd, Nat.reduceMul, Nat.reduceSub, Nat.reduceEqDiff, Nat.reduceLeDiff, Nat.reduceLT, reduceCtorEq, Nat.succ_eq_add_one]
      simp
  · intro s B hB
    have take : s.rows.take s.j = s.rows := List.take_of_length_le (by rw [s.hl]; omega)
    simp only [loopE, go_sem, reduceIte, Nat.reduceAdd, Nat.reduceMul, Nat.reduceSub, Nat.reduceEqDiff, Nat.reduceLeDiff, Nat.reduceLT, reduceCtorEq, Nat.succ_eq_add_one]
    refine goCall1 (b := 32) (fn57 b s.p) ⟨rfl, trivial⟩ rfl rfl rfl rfl ?_
    simp only [go_sem, reduceIte, Nat.reduceAdd, Nat.reduceMul, Nat.reduceSub, Nat.reduceEqDiff, Nat.reduceLeDiff, Nat.reduceLT, reduceCtorEq, Nat.succ_eq_add_one]
    refine goG_split (fun h1 => ?_) (fun h1 => ?_) <;> simp only [h1, go_sem, reduceIte, Nat.reduceAdd, Nat.reduceMul, Nat.reduceSub, Nat.reduceEqDiff, Nat.reduceLeDiff, Nat.reduceLT, reduceCtorEq, Nat.succ_eq_add_one]
    · have e1 : s.p < b.length := by simp only [decide_eq_true_eq] at h1; omega
      refine goIf_split (fun h2 => ?_) (fun h2 => ?_) <;> simp only [h2, go_sem, reduceIte, Nat.reduceAdd, Nat.reduceMul, Nat.reduceSub, Nat.reduceEqDiff, Nat.reduceLeDiff, Nat.reduceLT, reduceCtorEq, Nat.succ_eq_add_one]
      · have e2 : s.j < 400 := by simp only [decide_eq_true_eq] at h2; omega
        refine goCall1 (b := 32) (fn58 b s.p hb) ⟨rfl, trivial⟩ rfl rfl rfl (cmdA_pure ..) ?_
        simp only [List.replicate, List.set, take, go_sem, reduceIte, Nat.reduceAdd, Nat.reduceMul, Nat.reduceSub, Nat.reduceEqDiff, Nat.reduceLeDiff, Nat.reduceLT, reduceCtorEq, Nat.succ_eq_add_one]
        have hd : decodeL b = (s.rows ++ [cmdL b s.p]) ++ dec b (400 - (s.j + 1)) (cmdE b s.p) := by
          have hd := s.hd
          have e3 : 400 - s.j = (400 - (s.j + 1)) + 1 := by omega
          rw [e3] at hd
          simp only [dec, if_pos e1] at hd
          rw [hd, List.append_assoc]; rfl
        refine ⟨⟨by omega, by unfold maxLen; omega, by rw [s.hl]; omega⟩, hB _ ⟨s.rows ++ [cmdL b s.p], cmdE b s.p, s.j + 1, by simp [s.hl], by omega, hd⟩ (by simp only; omega) (Wk.mk [(32, 32), (9, 1088)] [] rfl rfl ?_ ?_ ?_)⟩
        · simp only [loopE, rv, go_sem, reduceIte, Nat.reduceAdd, Nat.reduceMul, Nat.reduceSub, Nat.reduceEqDiff, Nat.reduceLeDiff, Nat.reduceLT, reduceCtorEq, Nat.succ_eq_add_one]
        · simp only [go_sem, reduceIte, Nat.reduceAdd, Nat.reduceMul, Nat.reduceSub, Nat.reduceEqDiff, Nat.reduceLeDiff, Nat.reduceLT, reduceCtorEq, Nat.succ_eq_add_one]
        · simp only [loopE, rv, go_sem, reduceIte, Nat.reduceAdd, Nat.reduceMul, Nat.reduceSub, Nat.reduceEqDiff, Nat.reduceLeDiff, Nat.reduceLT, reduceCtorEq, Nat.succ_eq_add_one]
      · have e2 : s.j = 400 := by have := s.hj; simp only [decide_eq_false_iff_not] at h2; omega
        refine Fin.mk0 _ rfl rfl ?_
        have hd := s.hd
        rw [e2] at hd
        simp only [Nat.sub_self, dec, List.append_nil] at hd
        simp only [rv, take, hd, s.hl, go_sem, reduceIte, Nat.reduceAdd, Nat.reduceMul, Nat.reduceSub, Nat.reduceEqDiff, Nat.reduceLeDiff, Nat.reduceLT, reduceCtorEq, Nat.succ_eq_add_one]
        simp
    · have e1 : ¬ s.p < b.length := by simp only [decide_eq_false_iff_not] at h1; omega
      refine Fin.mk0 _ rfl rfl ?_
      have hd := s.hd
      have : dec b (400 - s.j) s.p = [] := by
        cases 400 - s.j with
        | zero => rfl
        | succ n => simp only [dec, if_neg e1]
      rw [this, List.append_nil] at hd
      simp only [rv, take, hd, s.hl, go_sem, reduceIte, Nat.reduceAdd, Nat.reduceMul, Nat.reduceSub, Nat.reduceEqDiff, Nat.reduceLeDiff, Nat.reduceLT, reduceCtorEq, Nat.succ_eq_add_one]
      simp
theorem fn16 (b : List UInt8) (hb : b.length ≤ 100000) : Fn Try.prog 16 [bsl b] [] (.sl 12 (decodeL b)) [] [] := by
  refine Fn.of_go ok16 (by simp) ?_
  unfold s16
  simp only [go_sem, reduceIte, Nat.reduceAdd, Nat.reduceMul, Nat.reduceSub, Nat.reduceEqDiff, Nat.reduceLeDiff, Nat.reduceLT, reduceCtorEq, Nat.succ_eq_add_one]
  refine go_loop (loopE b) (fun s => 400 - s.j) ⟨[], 0, 0, rfl, by omega, rfl⟩ ?_ ?_
  · refine Wk.mk [(32, 32)] [9] rfl rfl ?_ ?_ ?_
    · simp only [loopE, rv, go_sem, reduceIte, Nat.reduceAdd, Nat.reduceMul, Nat.reduceSub, Nat.reduceEqDiff, Nat.reduceLeDiff, Nat.reduceLT, reduceCtorEq, Nat.succ_eq_add_one]
      rfl
    · simp only [loopE, go_sem, reduceIte, Nat.reduceAdd, Nat.reduceMul, Nat.reduceSub, Nat.reduceEqDiff, Nat.reduceLeDiff, Nat.reduceLT, reduceCtorEq, Nat.succ_eq_add_one]
    · simp only [loopE, rv, go_sem, reduceIte, Nat.reduceAdd, Nat.reduceMul, Nat.reduceSub, Nat.reduceEqDiff, Nat.reduceLeDiff, Nat.reduceLT, reduceCtorEq, Nat.succ_eq_add_one]
      simp
  · intro s B hB
    have take : s.rows.take s.j = s.rows := List.take_of_length_le (by rw [s.hl]; omega)
    simp only [loopE, go_sem, reduceIte, Nat.reduceAdd, Nat.reduceMul, Nat.reduceSub, Nat.reduceEqDiff, Nat.reduceLeDiff, Nat.reduceLT, reduceCtorEq, Nat.succ_eq_add_one]
    refine goG_split (fun h1 => ?_) (fun h1 => ?_) <;> simp only [h1, go_sem, reduceIte, Nat.reduceAdd, Nat.reduceMul, Nat.reduceSub, Nat.reduceEqDiff, Nat.reduceLeDiff, Nat.reduceLT, reduceCtorEq, Nat.succ_eq_add_one]
    · have e1 : s.p < b.length := by simp only [decide_eq_true_eq] at h1; omega
      refine goIf_split (fun h2 => ?_) (fun h2 => ?_) <;> simp only [h2, go_sem, reduceIte, Nat.reduceAdd, Nat.reduceMul, Nat.reduceSub, Nat.reduceEqDiff, Nat.reduceLeDiff, Nat.reduceLT, reduceCtorEq, Nat.succ_eq_add_one]
      · have e2 : s.j < 400 := by simp only [decide_eq_true_eq] at h2; omega
        refine goCall1 (b := 32) (fn59 b s.p hb) ⟨rfl, trivial⟩ rfl rfl rfl (cmdA_pure ..) ?_
        simp only [List.replicate, List.set, take, go_sem, reduceIte, Nat.reduceAdd, Nat.reduceMul, Nat.reduceSub, Nat.reduceEqDiff, Nat.reduceLeDiff, Nat.reduceLT, reduceCtorEq, Nat.succ_eq_add_one]
        have hd : decodeL b = (s.rows ++ [cmdL b s.p]) ++ dec b (400 - (s.j + 1)) (cmdE b s.p) := by
          have hd := s.hd
          have e3 : 400 - s.j = (400 - (s.j + 1)) + 1 := by omega
          rw [e3] at hd
          simp only [dec, if_pos e1] at hd
          rw [hd, List.append_assoc]; rfl
        refine ⟨⟨by omega, by unfold maxLen; omega, by rw [s.hl]; omega⟩, hB _ ⟨s.rows ++ [cmdL b s.p], cmdE b s.p, s.j + 1, by simp [s.hl], by omega, hd⟩ (by simp only; omega) (Wk.mk [(32, 32), (9, 1128)] [] rfl rfl ?_ ?_ ?_)⟩
        · simp only [loopE, rv, go_sem, reduceIte, Nat.reduceAdd, Nat.reduceMul, Nat.reduceSub, Nat.reduceEqDiff, Nat.reduceLeDiff, Nat.reduceLT, reduceCtorEq, Nat.succ_eq_add_one]
        · simp only [go_sem, reduceIte, Nat.reduceAdd, Nat.reduceMul, Nat.reduceSub, Nat.reduceEqDiff, Nat.reduceLeDiff, Nat.reduceLT, reduceCtorEq, Nat.succ_eq_add_one]
        · simp only [loopE, rv, go_sem, reduceIte, Nat.reduceAdd, Nat.reduceMul, Nat.reduceSub, Nat.reduceEqDiff, Nat.reduceLeDiff, Nat.reduceLT, reduceCtorEq, Nat.succ_eq_add_one]
      · have e2 : s.j = 400 := by have := s.hj; simp only [decide_eq_false_iff_not] at h2; omega
        refine Fin.mk0 _ rfl rfl ?_
        have hd := s.hd
        rw [e2] at hd
        simp only [Nat.sub_self, dec, List.append_nil] at hd
        simp only [rv, take, hd, s.hl, go_sem, reduceIte, Nat.reduceAdd, Nat.reduceMul, Nat.reduceSub, Nat.reduceEqDiff, Nat.reduceLeDiff, Nat.reduceLT, reduceCtorEq, Nat.succ_eq_add_one]
        simp
    · have e1 : ¬ s.p < b.length := by simp only [decide_eq_false_iff_not] at h1; omega
      refine Fin.mk0 _ rfl rfl ?_
      have hd := s.hd
      have : dec b (400 - s.j) s.p = [] := by
        cases 400 - s.j with
        | zero => rfl
        | succ n => simp only [dec, if_neg e1]
      rw [this, List.append_nil] at hd
      simp only [rv, take, hd, s.hl, go_sem, reduceIte, Nat.reduceAdd, Nat.reduceMul, Nat.reduceSub, Nat.reduceEqDiff, Nat.reduceLeDiff, Nat.reduceLT, reduceCtorEq, Nat.succ_eq_add_one]
      simp
end Go.Eng.Scr
