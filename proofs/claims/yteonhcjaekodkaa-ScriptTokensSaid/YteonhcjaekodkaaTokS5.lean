/-
  Walks and plain lemmas for ScriptTokens: what the functions named below compute, over the abstract states of the engine.
  No condition beyond those that each theorem states.
-/
import Derived.Test.YteonhcjaekodkaaTokS4
set_option linter.all false
set_option linter.unusedSimpArgs false
set_option maxRecDepth 20000
namespace Go.Eng.Scr
open Go Go.Proofs

theorem wdiv (x : UInt8) : IntKind.i64.wrap ((x.toNat / 16 : Nat) : Int) = ((x.toNat / 16 : Nat) : Int) := by rw [w64 (by have := x.toNat_lt; omega)]
attribute [go_sem] wdiv

def bodyS (x : UInt8) : ByteArray := ⟨#[(97 + x.toNat % 26).toUInt8]⟩
def posN (b : List UInt8) (p : Nat) : Nat → Nat
  | 0 => p
  | j + 1 => stepAt b (posN b p j)
def bodies (b : List UInt8) (p : Nat) : Nat → List (List AV)
  | 0 => []
  | j + 1 => bodies b p j ++ [[.v (.string (bodyS (byteAt b (posN b p j))))]]
theorem bodies_len (b : List UInt8) (p : Nat) : ∀ j, (bodies b p j).length = j
  | 0 => rfl
  | j + 1 => by simp [bodies, bodies_len b p j]

theorem bodies_take (b : List UInt8) (p j : Nat) : (bodies b p j).take j = bodies b p j := List.take_of_length_le (by rw [bodies_len]; omega)
theorem tm26 (a : Nat) : ((a : Nat) : Int).tmod 26 = ((a % 26 : Nat) : Int) := rfl
theorem w8_97 (a : Nat) : IntKind.u8.wrap (((a % 26 : Nat) : Int) + 97) = ((97 + a % 26 : Nat) : Int) := by rw [IntKind.wrap_u8]; omega
attribute [go_sem] tm26 w8_97 bodies_take bodies_len

abbrev Z : AV := .v (.int .i64 0)
def loopA (b : List UInt8) (p n : Nat) (j : {j : Nat // j ≤ n}) : St :=
  ⟨1000, [(0, .ptr 0 0), (2, .ptr 8 0), (6, .ptr 128 0), (7, .ptr 128 3), (42, I n), (43, I j.1)],
    [(0, .box [bsl b, I (posN b p j.1)]), (8, .box [Z, Z, Z, Z, Z, Z, Z, Z, Z, Nl, Nl, Nl]), (128, .box [I (3 : Nat), Z, Z, I (1 : Nat), Z, Z, Z, Z, Z, .own 9 1 0 j.1, Nl, Nl]), (9, .row 9 1 (bodies b p j.1))]⟩


def refs (b : List UInt8) (p : Nat) : Nat → List (List AV) × Nat
  | 0 => ([], p)
  | j + 1 => ((refs b p j).1 ++ [refC b (refs b p j).2], refEnd b (refs b p j).2)
theorem refs_len (b : List UInt8) (p : Nat) : ∀ j, (refs b p j).1.length = j
  | 0 => rfl
  | j + 1 => by simp [refs, refs_len b p j]
theorem refs_take (b : List UInt8) (p j : Nat) : (refs b p j).1.take j = (refs b p j).1 := List.take_of_length_le (by rw [refs_len]; omega)
attribute [go_sem] refs_take refs_len
theorem w3_9 (a : Nat) : IntKind.i64.wrap (IntKind.i64.wrap (3 + ((a % 16 : Nat) : Int)) - 9) = ((a % 16 : Nat) : Int) - 6 := by rw [w64 (n := 3 + _) (by omega), w64 (by omega)]; omega
attribute [go_sem] w3_9

def loopB (b : List UInt8) (p n : Nat) (op : Int) (vis : Nat) (j : {j : Nat // j ≤ n}) : St :=
  ⟨1000, [(0, .ptr 0 0), (2, .ptr 8 0), (6, .ptr 128 0), (105, I n), (106, I j.1)],
    [(0, .box [bsl b, I (refs b p j.1).2]), (8, .box [Z, Z, Z, Z, Z, Z, Z, Z, Z, Nl, Nl, Nl]), (128, .box [I (3 : Nat), Z, Z, I op, Z, Z, I vis, Z, Z, Nl, Nl, .own 9 3 0 j.1]), (9, .row 79 3 (refs b p j.1).1)]⟩

def cmdL (b : List UInt8) (p : Nat) : List AV :=
  if (byteAt b p).toNat % 16 ≤ 5 then cmdC 1 ((byteAt b p).toNat / 16) (1 + (byteAt b (stepAt b p)).toNat % 16) 0 0 0 0 0 0 Nl Nl
  else if (byteAt b p).toNat % 16 = 6 then cmdC 2 0 ((byteAt b (stepAt b p)).toNat) 0 0 0 0 0 0 Nl Nl
  else if (byteAt b p).toNat % 16 = 7 then cmdC 3 0 0 1 0 0 0 0 0 (.sl 1 (bodies b (stepAt b p) (1 + (byteAt b p).toNat / 16 % 3))) Nl
  else if (byteAt b p).toNat % 16 = 8 then cmdC 3 0 0 2 ((byteAt b p).toNat / 16 % 6) (1 + (byteAt b (stepAt b p)).toNat % 6) ((byteAt b (stepAt b (stepAt b p))).toNat) 0 0 Nl Nl
  else if (byteAt b p).toNat % 16 = 11 then cmdC 3 0 0 5 0 0 ((byteAt b (stepAt b p)).toNat) 0 0 Nl (.sl 3 (refs b (stepAt b (stepAt b p)) (1 + (byteAt b p).toNat / 16 % 3)).1)
  else if (byteAt b p).toNat % 16 ≤ 11 then cmdC 3 0 0 ((byteAt b p).toNat % 16 - 6) 0 0 0 0 0 Nl (.sl 3 (refs b (stepAt b p) (1 + (byteAt b p).toNat / 16 % 3)).1)
  else othC b (stepAt b p) ((byteAt b p).toNat % 16) ((byteAt b p).toNat / 16)
def cmdE (b : List UInt8) (p : Nat) : Nat :=
  if (byteAt b p).toNat % 16 ≤ 5 then stepAt b (stepAt b p)
  else if (byteAt b p).toNat % 16 = 6 then stepAt b (stepAt b p)
  else if (byteAt b p).toNat % 16 = 7 then posN b (stepAt b p) (1 + (byteAt b p).toNat / 16 % 3)
  else if (byteAt b p).toNat % 16 = 8 then stepAt b (stepAt b (stepAt b p))
  else if (byteAt b p).toNat % 16 = 11 then (refs b (stepAt b (stepAt b p)) (1 + (byteAt b p).toNat / 16 % 3)).2
  else if (byteAt b p).toNat % 16 ≤ 11 then (refs b (stepAt b p) (1 + (byteAt b p).toNat / 16 % 3)).2
  else othE b (stepAt b p) ((byteAt b p).toNat % 16) ((byteAt b p).toNat / 16)

theorem othC_pure (b : List UInt8) (p k q : Nat) : pureL (othC b p k q) = true := by
  unfold othC; (repeat' split) <;> rfl

theorem othC_len (b : List UInt8) (p k q : Nat) : (othC b p k q).length = 12 := by
  unfold othC; (repeat' split) <;> rfl
theorem othC_one (b : List UInt8) (p k q : Nat) : oneL (othC b p k q) = true := by
  unfold othC; (repeat' split) <;> rfl
theorem othC_take (b : List UInt8) (p k q : Nat) : (othC b p k q).take 12 = othC b p k q := List.take_of_length_le (by rw [othC_len]; omega)

theorem fn58 (b : List UInt8) (p : Nat) (hb : b.length ≤ 100000) : Fn Try.prog 58 [.ptr 0 0] [[bsl b, I p]] (.agg (cmdL b p)) [[bsl b, I (cmdE b p)]] [] := by
  refine Fn.of_go ok58 (by simp) ?_
  unfold s58
  simp only [go_sem, reduceIte, Nat.reduceAdd, Nat.reduceMul, Nat.reduceSub, Nat.reduceEqDiff, Nat.reduceLeDiff, Nat.reduceLT, reduceCtorEq, Nat.succ_eq_add_one]
  refine goCall1 (b := 0) (fn102 b _ hb) ⟨rfl, trivial⟩ rfl rfl rfl rfl ?_; simp only [go_sem, reduceIte, Nat.reduceAdd, Nat.reduceMul, Nat.reduceSub, Nat.reduceEqDiff, Nat.reduceLeDiff, Nat.reduceLT, reduceCtorEq, Nat.succ_eq_add_one]
  refine ⟨by decide, by decide, ?_⟩
  refine goIf_split (fun h1 => ?_) (fun h1 => ?_) <;> simp only [h1, go_sem, reduceIte, Nat.reduceAdd, Nat.reduceMul, Nat.reduceSub, Nat.reduceEqDiff, Nat.reduceLeDiff, Nat.reduceLT, reduceCtorEq, Nat.succ_eq_add_one]
  · have e1 : (byteAt b p).toNat % 16 ≤ 5 := by simp only [decide_eq_true_eq] at h1; omega
    refine goCall1 (b := 0) (fn102 b _ hb) ⟨rfl, trivial⟩ rfl rfl rfl rfl ?_; simp only [go_sem, reduceIte, Nat.reduceAdd, Nat.reduceMul, Nat.reduceSub, Nat.reduceEqDiff, Nat.reduceLeDiff, Nat.reduceLT, reduceCtorEq, Nat.succ_eq_add_one]
    refine ⟨by decide, Fin.mk1 _ rfl rfl rfl (rvL_eq ?_ rfl) (rv_eq ?_ rfl)⟩
    · simp only [cmdE, if_pos e1]
    · simp only [cmdL, if_pos e1, cmdC]; rfl
  have e1 : ¬ (byteAt b p).toNat % 16 ≤ 5 := by simp only [decide_eq_false_iff_not] at h1; omega
  refine goIf_split (fun h2 => ?_) (fun h2 => ?_) <;> simp only [h2, go_sem, reduceIte, Nat.reduceAdd, Nat.reduceMul, Nat.reduceSub, Nat.reduceEqDiff, Nat.reduceLeDiff, Nat.reduceLT, reduceCtorEq, Nat.succ_eq_add_one]
  · have e2 : (byteAt b p).toNat % 16 = 6 := by simp only [beq_iff_eq] at h2; omega
    refine goCall1 (b := 0) (fn102 b _ hb) ⟨rfl, trivial⟩ rfl rfl rfl rfl ?_; simp only [go_sem, reduceIte, Nat.reduceAdd, Nat.reduceMul, Nat.reduceSub, Nat.reduceEqDiff, Nat.reduceLeDiff, Nat.reduceLT, reduceCtorEq, Nat.succ_eq_add_one]
    refine Fin.mk1 _ rfl rfl rfl (rvL_eq ?_ rfl) (rv_eq ?_ rfl)
    · simp only [cmdE, if_neg e1, if_pos e2]
    · simp only [cmdL, if_neg e1, if_pos e2, cmdC]; rfl
  have e2 : ¬ (byteAt b p).toNat % 16 = 6 := by simp only [beq_eq_false_iff_ne, ne_eq] at h2; omega
  refine goIf_split (fun h3 => ?_) (fun h3 => ?_) <;> simp only [h3, go_sem, reduceIte, Nat.reduceAdd, Nat.reduceMul, Nat.reduceSub, Nat.reduceEqDiff, Nat.reduceLeDiff, Nat.reduceLT, reduceCtorEq, Nat.succ_eq_add_one]
  · have e3 : (byteAt b p).toNat % 16 = 7 := by simp only [beq_iff_eq] at h3; omega
    refine ⟨by decide, ?_⟩
    refine go_loop (loopA b (stepAt b p) (1 + (byteAt b p).toNat / 16 % 3)) (fun j => 1 + (byteAt b p).toNat / 16 % 3 - j.1) ⟨0, by omega⟩ ?_ ?_
    · refine Wk.mk [(0, 0), (8, 8), (128, 128)] [9] rfl rfl ?_ ?_ ?_
      · simp only [loopA, posN, rv, go_sem, reduceIte, Nat.reduceAdd, Nat.reduceMul, Nat.reduceSub, Nat.reduceEqDiff, Nat.reduceLeDiff, Nat.reduceLT, reduceCtorEq, Nat.succ_eq_add_one]
        exact ⟨rfl, rfl, by simp⟩
      · simp only [loopA, bodies, go_sem, reduceIte, Nat.reduceAdd, Nat.reduceMul, Nat.reduceSub, Nat.reduceEqDiff, Nat.reduceLeDiff, Nat.reduceLT, reduceCtorEq, Nat.succ_eq_add_one]
      · simp only [loopA, rv, go_sem, reduceIte, Nat.reduceAdd, Nat.reduceMul, Nat.reduceSub, Nat.reduceEqDiff, Nat.reduceLeDiff, Nat.reduceLT, reduceCtorEq, Nat.succ_eq_add_one]
        rfl
    · intro j B hB
      simp only [loopA, go_sem, reduceIte, Nat.reduceAdd, Nat.reduceMul, Nat.reduceSub, Nat.reduceEqDiff, Nat.reduceLeDiff, Nat.reduceLT, reduceCtorEq, Nat.succ_eq_add_one]
      refine goIf_split (fun h4 => ?_) (fun h4 => ?_) <;> simp only [h4, go_sem, reduceIte, Nat.reduceAdd, Nat.reduceMul, Nat.reduceSub, Nat.reduceEqDiff, Nat.reduceLeDiff, Nat.reduceLT, reduceCtorEq, Nat.succ_eq_add_one]
      · have hj : j.1 < 1 + (byteAt b p).toNat / 16 % 3 := by simp only [decide_eq_true_eq] at h4; omega
        refine goCallD1 (b := 0) (fn103 b _ hb) ⟨rfl, trivial⟩ rfl rfl rfl rfl ?_
        simp only [Int.toNat_natCast, List.replicate, List.set, w64_succ (show j.1 ≤ 100000 by omega), go_sem, reduceIte, Nat.reduceAdd, Nat.reduceMul, Nat.reduceSub, Nat.reduceEqDiff, Nat.reduceLeDiff, Nat.reduceLT, reduceCtorEq, Nat.succ_eq_add_one]
        refine ⟨by decide, ⟨by omega, by unfold maxLen; omega, by omega⟩, rfl, hB _ ⟨j.1 + 1, hj⟩ (by simp only; omega) (Wk.mk [(0, 0), (8, 8), (128, 128), (9, 1104)] [] rfl rfl ?_ ?_ ?_)⟩
        · simp only [loopA, posN, bodies, bodyS, rv, List.cons_append, List.nil_append, go_sem, reduceIte, Nat.reduceAdd, Nat.reduceMul, Nat.reduceSub, Nat.reduceEqDiff, Nat.reduceLeDiff, Nat.reduceLT, reduceCtorEq, Nat.succ_eq_add_one]
        · simp only [go_sem, reduceIte, Nat.reduceAdd, Nat.reduceMul, Nat.reduceSub, Nat.reduceEqDiff, Nat.reduceLeDiff, Nat.reduceLT, reduceCtorEq, Nat.succ_eq_add_one]
        · simp only [loopA, posN, bodies, bodyS, rv, List.cons_append, List.nil_append, go_sem, reduceIte, Nat.reduceAdd, Nat.reduceMul, Nat.reduceSub, Nat.reduceEqDiff, Nat.reduceLeDiff, Nat.reduceLT, reduceCtorEq, Nat.succ_eq_add_one]
      · have hj : j.1 = 1 + (byteAt b p).toNat / 16 % 3 := by
          have := j.2
          simp only [decide_eq_false_iff_not] at h4
          omega
        refine Fin.mk1 _ rfl rfl rfl (rvL_eq ?_ rfl) ?_
        · simp only [cmdE, if_neg e1, if_neg e2, if_pos e3, hj]
        · simp only [cmdL, if_neg e1, if_neg e2, if_pos e3, cmdC, rv, hj, go_sem, reduceIte, Nat.reduceAdd, Nat.reduceMul, Nat.reduceSub, Nat.reduceEqDiff, Nat.reduceLeDiff, Nat.reduceLT, reduceCtorEq, Nat.succ_eq_add_one]
          refine ⟨rfl, rfl, ?_⟩
          simp
  have e3 : ¬ (byteAt b p).toNat % 16 = 7 := by simp only [beq_eq_false_iff_ne, ne_eq] at h3; omega
  refine goIf_split (fun h4 => ?_) (fun h4 => ?_) <;> simp only [h4, go_sem, reduceIte, Nat.reduceAdd, Nat.reduceMul, Nat.reduceSub, Nat.reduceEqDiff, Nat.reduceLeDiff, Nat.reduceLT, reduceCtorEq, Nat.succ_eq_add_one]
  · have e4 : (byteAt b p).toNat % 16 = 8 := by simp only [beq_iff_eq] at h4; omega
    refine ⟨by decide, ?_⟩
    refine goCall1 (b := 0) (fn102 b _ hb) ⟨rfl, trivial⟩ rfl rfl rfl rfl ?_; simp only [go_sem, reduceIte, Nat.reduceAdd, Nat.reduceMul, Nat.reduceSub, Nat.reduceEqDiff, Nat.reduceLeDiff, Nat.reduceLT, reduceCtorEq, Nat.succ_eq_add_one]
    refine ⟨by decide, ?_⟩
    refine goCall1 (b := 0) (fn102 b _ hb) ⟨rfl, trivial⟩ rfl rfl rfl rfl ?_; simp only [go_sem, reduceIte, Nat.reduceAdd, Nat.reduceMul, Nat.reduceSub, Nat.reduceEqDiff, Nat.reduceLeDiff, Nat.reduceLT, reduceCtorEq, Nat.succ_eq_add_one]
    refine Fin.mk1 _ rfl rfl rfl (rvL_eq ?_ rfl) (rv_eq ?_ rfl)
    · simp only [cmdE, if_neg e1, if_neg e2, if_neg e3, if_pos e4]
    · simp only [cmdL, if_neg e1, if_neg e2, if_neg e3, if_pos e4, cmdC]; rfl
  have e4 : ¬ (byteAt b p).toNat % 16 = 8 := by simp only [beq_eq_false_iff_ne, ne_eq] at h4; omega
  repeat' first
    | (refine goIf_split (fun h5 => ?_) (fun h5 => ?_) <;> simp only [h5, go_sem, reduceIte, Nat.reduceAdd, Nat.reduceMul, Nat.reduceSub, Nat.reduceEqDiff, Nat.reduceLeDiff, Nat.reduceLT, reduceCtorEq, Nat.succ_eq_add_one])
    | (refine goCall1 (b := 0) (fn102 b _ hb) ⟨rfl, trivial⟩ rfl rfl rfl rfl ?_; simp only [go_sem, reduceIte, Nat.reduceAdd, Nat.reduceMul, Nat.reduceSub, Nat.reduceEqDiff, Nat.reduceLeDiff, Nat.reduceLT, reduceCtorEq, Nat.succ_eq_add_one])
    | (refine And.intro ?_ ?_; focus decide)
  all_goals (simp only [beq_iff_eq, beq_eq_false_iff_ne, ne_eq] at *)
  all_goals first
    | (exfalso; omega)
    | (have e11 : (byteAt b p).toNat % 16 = 11 := by omega
       have e13 : (((byteAt b p).toNat % 16 : Nat) : Int) - 6 = 5 := by omega
       refine go_loop (loopB b (stepAt b (stepAt b p)) (1 + (byteAt b p).toNat / 16 % 3) (((byteAt b p).toNat % 16 : Nat) - 6) (byteAt b (stepAt b p)).toNat) (fun j => 1 + (byteAt b p).toNat / 16 % 3 - j.1) ⟨0, by omega⟩ ?_ ?_
       · refine Wk.mk [(0, 0), (8, 8), (128, 128)] [9] rfl rfl ?_ ?_ ?_
         · simp only [loopB, refs, rv, go_sem, reduceIte, Nat.reduceAdd, Nat.reduceMul, Nat.reduceSub, Nat.reduceEqDiff, Nat.reduceLeDiff, Nat.reduceLT, reduceCtorEq, Nat.succ_eq_add_one]
           exact ⟨rfl, by simp⟩
         · simp only [loopB, refs, go_sem, reduceIte, Nat.reduceAdd, Nat.reduceMul, Nat.reduceSub, Nat.reduceEqDiff, Nat.reduceLeDiff, Nat.reduceLT, reduceCtorEq, Nat.succ_eq_add_one]
         · simp only [loopB, rv, go_sem, reduceIte, Nat.reduceAdd, Nat.reduceMul, Nat.reduceSub, Nat.reduceEqDiff, Nat.reduceLeDiff, Nat.reduceLT, reduceCtorEq, Nat.succ_eq_add_one]
           rfl
       · intro j B hB
         simp only [loopB, go_sem, reduceIte, Nat.reduceAdd, Nat.reduceMul, Nat.reduceSub, Nat.reduceEqDiff, Nat.reduceLeDiff, Nat.reduceLT, reduceCtorEq, Nat.succ_eq_add_one]
         refine goIf_split (fun h6 => ?_) (fun h6 => ?_) <;> simp only [h6, go_sem, reduceIte, Nat.reduceAdd, Nat.reduceMul, Nat.reduceSub, Nat.reduceEqDiff, Nat.reduceLeDiff, Nat.reduceLT, reduceCtorEq, Nat.succ_eq_add_one]
         · have hj : j.1 < 1 + (byteAt b p).toNat / 16 % 3 := by simp only [decide_eq_true_eq] at h6; omega
           refine goCallD1 (b := 0) (fn104 b _ hb) ⟨rfl, trivial⟩ rfl rfl rfl (refA_pure ..) ?_
           simp only [refC, Int.toNat_natCast, List.replicate, List.set, w64_succ (show j.1 ≤ 100000 by omega), go_sem, reduceIte, Nat.reduceAdd, Nat.reduceMul, Nat.reduceSub, Nat.reduceEqDiff, Nat.reduceLeDiff, Nat.reduceLT, reduceCtorEq, Nat.succ_eq_add_one]
           refine ⟨⟨by omega, by unfold maxLen; omega, by omega⟩, rfl, hB _ ⟨j.1 + 1, hj⟩ (by simp only; omega) (Wk.mk [(0, 0), (8, 8), (128, 128), (9, 1048)] [] rfl rfl ?_ ?_ ?_)⟩
           · simp only [loopB, refs, refC, rv, List.cons_append, List.nil_append, go_sem, reduceIte, Nat.reduceAdd, Nat.reduceMul, Nat.reduceSub, Nat.reduceEqDiff, Nat.reduceLeDiff, Nat.reduceLT, reduceCtorEq, Nat.succ_eq_add_one]
           · simp only [go_sem, reduceIte, Nat.reduceAdd, Nat.reduceMul, Nat.reduceSub, Nat.reduceEqDiff, Nat.reduceLeDiff, Nat.reduceLT, reduceCtorEq, Nat.succ_eq_add_one]
           · simp only [loopB, refs, rv, List.cons_append, List.nil_append, go_sem, reduceIte, Nat.reduceAdd, Nat.reduceMul, Nat.reduceSub, Nat.reduceEqDiff, Nat.reduceLeDiff, Nat.reduceLT, reduceCtorEq, Nat.succ_eq_add_one]
         · have hj : j.1 = 1 + (byteAt b p).toNat / 16 % 3 := by
             have := j.2
             simp only [decide_eq_false_iff_not] at h6
             omega
           have hop : (((byteAt b p).toNat % 16 - 6 : Nat) : Int) = (((byteAt b p).toNat % 16 : Nat) : Int) - 6 := by omega
           refine Fin.mk1 _ rfl rfl rfl (rvL_eq ?_ rfl) ?_
           · simp only [cmdE, if_neg e1, if_neg e2, if_neg e3, if_neg e4, if_pos e11, hj]
           · simp only [cmdL, if_neg e1, if_neg e2, if_neg e3, if_neg e4, if_pos e11, cmdC, rv, hj, hop, e13, go_sem, reduceIte, Nat.reduceAdd, Nat.reduceMul, Nat.reduceSub, Nat.reduceEqDiff, Nat.reduceLeDiff, Nat.reduceLT, reduceCtorEq, Nat.succ_eq_add_one]
             exact ⟨rfl, rfl, rfl, rfl, rfl, rfl, rfl, by simp, Nat.le_refl _⟩)
    | (have e11 : ¬ (byteAt b p).toNat % 16 = 11 := by omega
       have e12 : (byteAt b p).toNat % 16 ≤ 11 := by omega
       have e13 : True := trivial
       refine go_loop (loopB b (stepAt b p) (1 + (byteAt b p).toNat / 16 % 3) (((byteAt b p).toNat % 16 : Nat) - 6) 0) (fun j => 1 + (byteAt b p).toNat / 16 % 3 - j.1) ⟨0, by omega⟩ ?_ ?_
       · refine Wk.mk [(0, 0), (8, 8), (128, 128)] [9] rfl rfl ?_ ?_ ?_
         · simp only [loopB, refs, rv, go_sem, reduceIte, Nat.reduceAdd, Nat.reduceMul, Nat.reduceSub, Nat.reduceEqDiff, Nat.reduceLeDiff, Nat.reduceLT, reduceCtorEq, Nat.succ_eq_add_one]
           exact ⟨rfl, by simp⟩
         · simp only [loopB, refs, go_sem, reduceIte, Nat.reduceAdd, Nat.reduceMul, Nat.reduceSub, Nat.reduceEqDiff, Nat.reduceLeDiff, Nat.reduceLT, reduceCtorEq, Nat.succ_eq_add_one]
         · simp only [loopB, rv, go_sem, reduceIte, Nat.reduceAdd, Nat.reduceMul, Nat.reduceSub, Nat.reduceEqDiff, Nat.reduceLeDiff, Nat.reduceLT, reduceCtorEq, Nat.succ_eq_add_one]
           rfl
       · intro j B hB
         simp only [loopB, go_sem, reduceIte, Nat.reduceAdd, Nat.reduceMul, Nat.reduceSub, Nat.reduceEqDiff, Nat.reduceLeDiff, Nat.reduceLT, reduceCtorEq, Nat.succ_eq_add_one]
         refine goIf_split (fun h6 => ?_) (fun h6 => ?_) <;> simp only [h6, go_sem, reduceIte, Nat.reduceAdd, Nat.reduceMul, Nat.reduceSub, Nat.reduceEqDiff, Nat.reduceLeDiff, Nat.reduceLT, reduceCtorEq, Nat.succ_eq_add_one]
         · have hj : j.1 < 1 + (byteAt b p).toNat / 16 % 3 := by simp only [decide_eq_true_eq] at h6; omega
           refine goCallD1 (b := 0) (fn104 b _ hb) ⟨rfl, trivial⟩ rfl rfl rfl (refA_pure ..) ?_
           simp only [refC, Int.toNat_natCast, List.replicate, List.set, w64_succ (show j.1 ≤ 100000 by omega), go_sem, reduceIte, Nat.reduceAdd, Nat.reduceMul, Nat.reduceSub, Nat.reduceEqDiff, Nat.reduceLeDiff, Nat.reduceLT, reduceCtorEq, Nat.succ_eq_add_one]
           refine ⟨⟨by omega, by unfold maxLen; omega, by omega⟩, rfl, hB _ ⟨j.1 + 1, hj⟩ (by simp only; omega) (Wk.mk [(0, 0), (8, 8), (128, 128), (9, 1048)] [] rfl rfl ?_ ?_ ?_)⟩
           · simp only [loopB, refs, refC, rv, List.cons_append, List.nil_append, go_sem, reduceIte, Nat.reduceAdd, Nat.reduceMul, Nat.reduceSub, Nat.reduceEqDiff, Nat.reduceLeDiff, Nat.reduceLT, reduceCtorEq, Nat.succ_eq_add_one]
           · simp only [go_sem, reduceIte, Nat.reduceAdd, Nat.reduceMul, Nat.reduceSub, Nat.reduceEqDiff, Nat.reduceLeDiff, Nat.reduceLT, reduceCtorEq, Nat.succ_eq_add_one]
           · simp only [loopB, refs, rv, List.cons_append, List.nil_append, go_sem, reduceIte, Nat.reduceAdd, Nat.reduceMul, Nat.reduceSub, Nat.reduceEqDiff, Nat.reduceLeDiff, Nat.reduceLT, reduceCtorEq, Nat.succ_eq_add_one]
         · have hj : j.1 = 1 + (byteAt b p).toNat / 16 % 3 := by
             have := j.2
             simp only [decide_eq_false_iff_not] at h6
             omega
           have hop : (((byteAt b p).toNat % 16 - 6 : Nat) : Int) = (((byteAt b p).toNat % 16 : Nat) : Int) - 6 := by omega
           refine Fin.mk1 _ rfl rfl rfl (rvL_eq ?_ rfl) ?_
           · simp only [cmdE, if_neg e1, if_neg e2, if_neg e3, if_neg e4, if_neg e11, if_pos e12, hj]
           · simp only [cmdL, if_neg e1, if_neg e2, if_neg e3, if_neg e4, if_neg e11, if_pos e12, cmdC, rv, hj, hop, e13, go_sem, reduceIte, Nat.reduceAdd, Nat.reduceMul, Nat.reduceSub, Nat.reduceEqDiff, Nat.reduceLeDiff, Nat.reduceLT, reduceCtorEq, Nat.succ_eq_add_one]
             exact ⟨rfl, rfl, rfl, rfl, rfl, rfl, by simp, Nat.le_refl _⟩)
    | skip
  have e11 : ¬ (byteAt b p).toNat % 16 = 11 := by omega
  have e12 : ¬ (byteAt b p).toNat % 16 ≤ 11 := by omega
  refine goCall2 0 128 (othC b (stepAt b p) ((byteAt b p).toNat % 16) ((byteAt b p).toNat / 16)) (fn105 b (stepAt b p) ((byteAt b p).toNat % 16) ((byteAt b p).toNat / 16) hb) (by decide) (by exact ⟨rfl, rfl, ⟨rfl, rfl⟩, ⟨rfl, rfl⟩, trivial⟩) rfl rfl (argsR_pure _ rfl) (argsR_pure _ rfl) rfl (argsR_pure _ (othC_pure ..)) rfl ?_
  simp only [othC_len, othC_one, othC_take, go_sem, reduceIte, Nat.reduceAdd, Nat.reduceMul, Nat.reduceSub, Nat.reduceEqDiff, Nat.reduceLeDiff, Nat.reduceLT, reduceCtorEq, Nat.succ_eq_add_one]
  refine Fin.mk1 [.agg (othC b (stepAt b p) ((byteAt b p).toNat % 16) ((byteAt b p).toNat / 16))] (by simp only [othC_len, go_sem, reduceIte, Nat.reduceAdd, Nat.reduceMul, Nat.reduceSub, Nat.reduceEqDiff, Nat.reduceLeDiff, Nat.reduceLT, reduceCtorEq, Nat.succ_eq_add_one]) rfl rfl (rvL_eq ?_ rfl) (rv_eq ?_ (by simp only [othC_pure, go_sem, reduceIte, Nat.reduceAdd, Nat.reduceMul, Nat.reduceSub, Nat.reduceEqDiff, Nat.reduceLeDiff, Nat.reduceLT, reduceCtorEq, Nat.succ_eq_add_one]))
  · simp only [cmdE, if_neg e1, if_neg e2, if_neg e3, if_neg e4, if_neg e11, if_neg e12]
  · simp only [cmdL, if_neg e1, if_neg e2, if_neg e3, if_neg e4, if_neg e11, if_neg e12]; rfl
end Go.Eng.Scr
