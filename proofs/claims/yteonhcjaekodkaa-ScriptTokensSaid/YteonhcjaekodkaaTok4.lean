/-
  Walks and plain lemmas for ScriptTokens: what the functions named below compute, over the abstract states of the engine.
  No condition beyond those that each theorem states.
-/
import Derived.Test.YteonhcjaekodkaaTok3
set_option linter.all false
set_option linter.unusedSimpArgs false
set_option maxRecDepth 20000
set_option maxHeartbeats 4000000
namespace Go.Eng
open Go Go.Proofs

theorem or8 (g x : Nat) (hg : g < 2 ^ 48) (hx : x < 256) : bits .or .i64 (IntKind.i64.wrap ((g : Int) * 2 ^ 8)) (x : Int) = ((g * 256 + x : Nat) : Int) := by
  have e : ((g : Int) * 2 ^ 8) = ((g * 256 : Nat) : Int) := by simp
  rw [e, w64 (by omega)]
  rw [bits_join .i64 63 (by decide) wr_i64 8 _ _ (by omega) (by omega) (by omega) (by omega) (by omega) (by omega)]
  simp

theorem gN_lt48 (b : List UInt8) (a j : Nat) (hj : j ≤ 6) : gN b a j < 2 ^ 48 := by
  have h1 := gN_lt b a j
  have h2 : 256 ^ j ≤ 256 ^ 6 := Nat.pow_le_pow_right (by decide) hj
  have h3 : (256 : Nat) ^ 6 = 2 ^ 48 := by decide
  omega

theorem fn101 (b : List UInt8) (a s : Nat) (hb : b.length ≤ 1000) (hs : 1 ≤ s ∧ s ≤ 6) (ha : a + s ≤ b.length) : Fn Try.prog 101 [bsl b, I a, I s] [] (.tup [I (gN b a s : Nat), I 0]) [] [] := by
  refine Fn.of_go ok101 (by simp) ?_
  unfold s101
  have c1 : decide ((s : Int) < 1) = false := by rw [decide_eq_false_iff_not]; omega
  have c2 : decide (6 < (s : Int)) = false := by rw [decide_eq_false_iff_not]; omega
  have c3 : decide ((a : Int) < 0) = false := by rw [decide_eq_false_iff_not]; omega
  have c4 : decide ((b.length : Int) < (a : Int)) = false := by rw [decide_eq_false_iff_not]; omega
  have c5 : IntKind.i64.wrap ((b.length : Int) - (a : Int)) = (b.length : Int) - (a : Int) := w64 (by omega)
  have c6 : decide ((b.length : Int) - (a : Int) < (s : Int)) = false := by rw [decide_eq_false_iff_not]; omega
  simp only [c1, c2, c3, c4, c5, c6, go_sem, reduceIte, Nat.reduceAdd, Nat.reduceMul, Nat.reduceSub, Nat.reduceEqDiff, Nat.reduceLeDiff, Nat.reduceLT, reduceCtorEq, Nat.succ_eq_add_one]
  refine go_loop (fun j : {j : Nat // j ≤ s} => ⟨1000, [(0, bsl b), (1, I a), (2, I s), (8, I (gN b a j.1 : Nat)), (9, I j.1)], []⟩) (fun j => s - j.1) ⟨0, by omega⟩
    (Wk.mk [] [] rfl rfl (by simp only [go_sem, reduceIte, Nat.reduceAdd, Nat.reduceMul, Nat.reduceSub, Nat.reduceEqDiff, Nat.reduceLeDiff, Nat.reduceLT, reduceCtorEq, Nat.succ_eq_add_one]) (by simp only [go_sem, reduceIte, Nat.reduceAdd, Nat.reduceMul, Nat.reduceSub, Nat.reduceEqDiff, Nat.reduceLeDiff, Nat.reduceLT, reduceCtorEq, Nat.succ_eq_add_one]) (by simp only [rv, gN, go_sem, reduceIte, Nat.reduceAdd, Nat.reduceMul, Nat.reduceSub, Nat.reduceEqDiff, Nat.reduceLeDiff, Nat.reduceLT, reduceCtorEq, Nat.succ_eq_add_one]; exact ⟨rfl, rfl⟩)) ?_
  intro j B hB
  obtain ⟨j, hj⟩ := j
  simp only [go_sem, reduceIte, Nat.reduceAdd, Nat.reduceMul, Nat.reduceSub, Nat.reduceEqDiff, Nat.reduceLeDiff, Nat.reduceLT, reduceCtorEq, Nat.succ_eq_add_one]
  refine goIf_split (fun h1 => ?_) (fun h1 => ?_) <;> simp only [h1, go_sem, reduceIte, Nat.reduceAdd, Nat.reduceMul, Nat.reduceSub, Nat.reduceEqDiff, Nat.reduceLeDiff, Nat.reduceLT, reduceCtorEq, Nat.succ_eq_add_one]
  · have e1 : j < s := by simp only [decide_eq_true_eq] at h1; omega
    have e2 : IntKind.i64.wrap ((a : Int) + (j : Int)) = ((a + j : Nat) : Int) := by rw [w64 (by omega)]; omega
    have e3 := byN_lt b (a + j)
    have e4 : IntKind.i64.wrap ((byN b (a + j) : Nat) : Int) = ((byN b (a + j) : Nat) : Int) := w64 (by omega)
    have e5 := gN_lt48 b a j (by omega)
    have e6 : gN b a j * 256 + byN b (a + j) = gN b a (j + 1) := rfl
    simp only [Int.toNat_natCast, e2, encB_nth' (show a + j < b.length by omega), e4, Nat.reduceLeDiff, Nat.min_eq_left (show 8 ≤ 64 by decide), Int.cast_ofNat_Int, Int.reduceBEq, Int.reduceLT, Int.reduceLE, Int.reduceSub, Int.reduceAdd, Int.reduceNeg, Int.reduceEq, Int.reduceToNat, decide_true, decide_false, decide_eq_true_eq, beq_self_eq_true, bne_self_eq_false, List.reduceReplicate, List.length_set, List.length_replicate, List.length_cons, List.length_nil, List.set_cons_zero, List.set_cons_succ, Int.toNat_natCast, go_sem, reduceIte, Nat.reduceAdd, Nat.reduceMul, Nat.reduceSub, Nat.reduceEqDiff, Nat.reduceLeDiff, Nat.reduceLT, reduceCtorEq, Nat.succ_eq_add_one]
    simp only [or8 _ _ e5 e3, e6, w64_succ (show j ≤ 100000 by omega), Int.cast_ofNat_Int, Int.reduceBEq, Int.reduceLT, Int.reduceLE, Int.reduceSub, Int.reduceAdd, Int.reduceNeg, Int.reduceEq, Int.reduceToNat, decide_true, decide_false, decide_eq_true_eq, beq_self_eq_true, bne_self_eq_false, List.reduceReplicate, List.length_set, List.length_replicate, List.length_cons, List.length_nil, List.set_cons_zero, List.set_cons_succ, Int.toNat_natCast, go_sem, reduceIte, Nat.reduceAdd, Nat.reduceMul, Nat.reduceSub, Nat.reduceEqDiff, Nat.reduceLeDiff, Nat.reduceLT, reduceCtorEq, Nat.succ_eq_add_one]
    refine ⟨⟨by omega, by omega⟩, hB _ ⟨j + 1, e1⟩ (by simp only; omega) (Wk.mk [] [] rfl rfl (by simp only [go_sem, reduceIte, Nat.reduceAdd, Nat.reduceMul, Nat.reduceSub, Nat.reduceEqDiff, Nat.reduceLeDiff, Nat.reduceLT, reduceCtorEq, Nat.succ_eq_add_one]) (by simp only [go_sem, reduceIte, Nat.reduceAdd, Nat.reduceMul, Nat.reduceSub, Nat.reduceEqDiff, Nat.reduceLeDiff, Nat.reduceLT, reduceCtorEq, Nat.succ_eq_add_one]) (by simp only [rv, go_sem, reduceIte, Nat.reduceAdd, Nat.reduceMul, Nat.reduceSub, Nat.reduceEqDiff, Nat.reduceLeDiff, Nat.reduceLT, reduceCtorEq, Nat.succ_eq_add_one]))⟩
  · have e1 : j = s := by simp only [decide_eq_false_iff_not] at h1; omega
    subst e1
    exact Fin.eq0 _ rfl rfl rfl rfl

theorem encB_bytes (b : List UInt8) : bytesOfL (encB b) = some b := by
  induction b with
  | nil => rfl
  | cons x b ih =>
    have e : encB (x :: b) = [.v (.int .u8 (x.toNat : Int))] :: encB b := rfl
    rw [e]
    simp only [bytesOfL, ih, Int.toNat_natCast]
    simp
theorem ba_eq (a b : List UInt8) : ((⟨a.toArray⟩ : ByteArray).toList == (⟨b.toArray⟩ : ByteArray).toList) = decide (a = b) := by
  rw [ByteArray.toList_eq, ByteArray.toList_eq]
  by_cases h : a = b
  · simp [h]
  · simp [h]
theorem fn53 (a b : List UInt8) : Fn Try.prog 53 [bsl a, bsl b] [] (Bo (decide (a = b))) [] [] := by
  refine Fn.of_go ok53 (by simp) ?_
  unfold s53
  simp only [encB_bytes, go_sem, reduceIte, Nat.reduceAdd, Nat.reduceMul, Nat.reduceSub, Nat.reduceEqDiff, Nat.reduceLeDiff, Nat.reduceLT, reduceCtorEq, Nat.succ_eq_add_one]
  refine Fin.eq0 _ rfl rfl rfl ?_
  simp only [retOne, ba_eq]
theorem B8_ne (x y : UInt8) : ((x.toNat : Int) != (y.toNat : Int)) = !decide (x = y) := by
  by_cases h : x = y
  · simp [h]
  · have : x.toNat ≠ y.toNat := fun e => h (UInt8.toNat_inj.1 e)
    simp [h]; omega
theorem fn124 (a b : List UInt8) (ha : a.length ≤ 10000) (hb : b.length ≤ 10000) : Fn Try.prog 124 [bsl a, bsl b] [] (Bo (decide (a = b))) [] [] := by
  refine Fn.of_go ok124 (by simp) ?_
  unfold s124
  simp only [go_sem, reduceIte, Nat.reduceAdd, Nat.reduceMul, Nat.reduceSub, Nat.reduceEqDiff, Nat.reduceLeDiff, Nat.reduceLT, reduceCtorEq, Nat.succ_eq_add_one]
  refine goIf_split (fun h1 => ?_) (fun h1 => ?_) <;> simp only [h1, go_sem, reduceIte, Nat.reduceAdd, Nat.reduceMul, Nat.reduceSub, Nat.reduceEqDiff, Nat.reduceLeDiff, Nat.reduceLT, reduceCtorEq, Nat.succ_eq_add_one]
  · have e1 : a ≠ b := by intro e; subst e; simp at h1
    simp only [e1, decide_false]
    exact Fin.eq0 _ rfl rfl rfl rfl
  have e0 : a.length = b.length := by simp at h1; omega
  refine go_loop (fun j : {j : Nat // j ≤ a.length ∧ ∀ k, k < j → a[k]? = b[k]?} => ⟨1000, [(0, bsl a), (1, bsl b), (12, I a.length), (13, I j.1)], []⟩) (fun j => a.length - j.1) ⟨0, by omega, fun k hk => absurd hk (by omega)⟩
    (Wk.mk [] [] rfl rfl (by simp only [go_sem, reduceIte, Nat.reduceAdd, Nat.reduceMul, Nat.reduceSub, Nat.reduceEqDiff, Nat.reduceLeDiff, Nat.reduceLT, reduceCtorEq, Nat.succ_eq_add_one]) (by simp only [go_sem, reduceIte, Nat.reduceAdd, Nat.reduceMul, Nat.reduceSub, Nat.reduceEqDiff, Nat.reduceLeDiff, Nat.reduceLT, reduceCtorEq, Nat.succ_eq_add_one]) (by simp only [rv, go_sem, reduceIte, Nat.reduceAdd, Nat.reduceMul, Nat.reduceSub, Nat.reduceEqDiff, Nat.reduceLeDiff, Nat.reduceLT, reduceCtorEq, Nat.succ_eq_add_one]; simp)) ?_
  intro j B hB
  obtain ⟨j, hj, hk⟩ := j
  simp only [go_sem, reduceIte, Nat.reduceAdd, Nat.reduceMul, Nat.reduceSub, Nat.reduceEqDiff, Nat.reduceLeDiff, Nat.reduceLT, reduceCtorEq, Nat.succ_eq_add_one]
  refine goIf_split (fun h2 => ?_) (fun h2 => ?_) <;> simp only [h2, go_sem, reduceIte, Nat.reduceAdd, Nat.reduceMul, Nat.reduceSub, Nat.reduceEqDiff, Nat.reduceLeDiff, Nat.reduceLT, reduceCtorEq, Nat.succ_eq_add_one]
  · have e1 : j < a.length := by simp only [decide_eq_true_eq] at h2; omega
    have e2 : j < b.length := by omega
    simp only [Int.toNat_natCast, encB_nth e1, encB_nth e2, B8_ne, Int.cast_ofNat_Int, Int.reduceBEq, Int.reduceLT, Int.reduceLE, Int.reduceSub, Int.reduceAdd, Int.reduceNeg, Int.reduceEq, Int.reduceToNat, decide_true, decide_false, decide_eq_true_eq, beq_self_eq_true, bne_self_eq_false, List.reduceReplicate, List.length_set, List.length_replicate, List.length_cons, List.length_nil, List.set_cons_zero, List.set_cons_succ, Int.toNat_natCast, go_sem, reduceIte, Nat.reduceAdd, Nat.reduceMul, Nat.reduceSub, Nat.reduceEqDiff, Nat.reduceLeDiff, Nat.reduceLT, reduceCtorEq, Nat.succ_eq_add_one]
    refine ⟨⟨by omega, by omega⟩, ⟨by omega, by omega⟩, rfl, ?_⟩
    refine goIf_split (fun h3 => ?_) (fun h3 => ?_) <;> simp only [h3, go_sem, reduceIte, Nat.reduceAdd, Nat.reduceMul, Nat.reduceSub, Nat.reduceEqDiff, Nat.reduceLeDiff, Nat.reduceLT, reduceCtorEq, Nat.succ_eq_add_one]
    · have e3 : a ≠ b := by intro e; subst e; simp at h3
      simp only [e3, decide_false]
      exact Fin.eq0 _ rfl rfl rfl rfl
    · have e3 : a[j] = b[j] := by simpa using h3
      simp only [w64_succ (show j ≤ 100000 by omega), go_sem, reduceIte, Nat.reduceAdd, Nat.reduceMul, Nat.reduceSub, Nat.reduceEqDiff, Nat.reduceLeDiff, Nat.reduceLT, reduceCtorEq, Nat.succ_eq_add_one]
      exact hB _ ⟨j + 1, e1, fun k hk' => by
        by_cases h : k < j
        · exact hk k h
        · have : k = j := by omega
          subst this
          rw [List.getElem?_eq_getElem e1, List.getElem?_eq_getElem e2, e3]⟩ (by simp only; omega) (Wk.mk [] [] rfl rfl (by simp only [go_sem, reduceIte, Nat.reduceAdd, Nat.reduceMul, Nat.reduceSub, Nat.reduceEqDiff, Nat.reduceLeDiff, Nat.reduceLT, reduceCtorEq, Nat.succ_eq_add_one]) (by simp only [go_sem, reduceIte, Nat.reduceAdd, Nat.reduceMul, Nat.reduceSub, Nat.reduceEqDiff, Nat.reduceLeDiff, Nat.reduceLT, reduceCtorEq, Nat.succ_eq_add_one]) (by simp only [rv, go_sem, reduceIte, Nat.reduceAdd, Nat.reduceMul, Nat.reduceSub, Nat.reduceEqDiff, Nat.reduceLeDiff, Nat.reduceLT, reduceCtorEq, Nat.succ_eq_add_one]))
  · have e1 : j = a.length := by simp only [decide_eq_false_iff_not] at h2; omega
    have e2 : a = b := List.ext_getElem? fun k => by
      by_cases h : k < j
      · exact hk k h
      · rw [List.getElem?_eq_none (by omega), List.getElem?_eq_none (by omega)]
    simp only [e2, decide_true]
    exact Fin.eq0 _ rfl rfl rfl rfl

theorem fn123 (b : List UInt8) (a s : Nat) (hb : b.length ≤ 1000) (hs : 1 ≤ s ∧ s ≤ 6) (ha : a + s ≤ b.length) : Fn Try.prog 123 [bsl b, I a, I s] [] (.tup [I (gN b a s : Nat), I 0]) [] [] := by
  refine Fn.of_go ok123 (by simp) ?_
  unfold s123
  have c1 : decide ((s : Int) < 1) = false := by rw [decide_eq_false_iff_not]; omega
  have c2 : decide (6 < (s : Int)) = false := by rw [decide_eq_false_iff_not]; omega
  have c3 : decide ((a : Int) < 0) = false := by rw [decide_eq_false_iff_not]; omega
  have c4 : decide ((b.length : Int) < (a : Int)) = false := by rw [decide_eq_false_iff_not]; omega
  have c5 : IntKind.i64.wrap ((b.length : Int) - (a : Int)) = (b.length : Int) - (a : Int) := w64 (by omega)
  have c6 : decide ((b.length : Int) - (a : Int) < (s : Int)) = false := by rw [decide_eq_false_iff_not]; omega
  have c7 : IntKind.i64.wrap ((a : Int) + (s : Int)) = ((a + s : Nat) : Int) := by rw [w64 (by omega)]; omega
  have c8 : a + s - a = s := by omega
  simp only [c1, c2, c3, c4, c5, c6, c7, Int.toNat_natCast, encB_drop, encB_take, encB_len, go_sem, reduceIte, Nat.reduceAdd, Nat.reduceMul, Nat.reduceSub, Nat.reduceEqDiff, Nat.reduceLeDiff, Nat.reduceLT, reduceCtorEq, Nat.succ_eq_add_one]
  refine ⟨⟨by omega, by omega, by omega⟩, ?_⟩
  have hl : (List.drop a (List.take (a + s) b)).length = s := by rw [List.length_drop, List.length_take]; omega
  have hn : ∀ k, k < s → byN (List.drop a (List.take (a + s) b)) k = byN b (a + k) := fun k hk => by
    simp only [byN, List.getElem?_drop, List.getElem?_take, if_pos (show a + k < a + s by omega)]
  generalize List.drop a (List.take (a + s) b) = bs at hl hn ⊢
  simp only [hl]
  refine go_loop (fun j : {j : Nat // j ≤ s} => ⟨1000, [(8, I (gN b a j.1 : Nat)), (38, bsl bs), (39, I s), (40, I j.1)], []⟩) (fun j => s - j.1) ⟨0, by omega⟩
    (Wk.mk [] [] rfl rfl (by simp only [go_sem, reduceIte, Nat.reduceAdd, Nat.reduceMul, Nat.reduceSub, Nat.reduceEqDiff, Nat.reduceLeDiff, Nat.reduceLT, reduceCtorEq, Nat.succ_eq_add_one]) (by simp only [go_sem, reduceIte, Nat.reduceAdd, Nat.reduceMul, Nat.reduceSub, Nat.reduceEqDiff, Nat.reduceLeDiff, Nat.reduceLT, reduceCtorEq, Nat.succ_eq_add_one]) (by simp only [rv, gN, go_sem, reduceIte, Nat.reduceAdd, Nat.reduceMul, Nat.reduceSub, Nat.reduceEqDiff, Nat.reduceLeDiff, Nat.reduceLT, reduceCtorEq, Nat.succ_eq_add_one]; exact ⟨rfl, rfl⟩)) ?_
  intro j B hB
  obtain ⟨j, hj⟩ := j
  simp only [go_sem, reduceIte, Nat.reduceAdd, Nat.reduceMul, Nat.reduceSub, Nat.reduceEqDiff, Nat.reduceLeDiff, Nat.reduceLT, reduceCtorEq, Nat.succ_eq_add_one]
  refine goIf_split (fun h1 => ?_) (fun h1 => ?_) <;> simp only [h1, go_sem, reduceIte, Nat.reduceAdd, Nat.reduceMul, Nat.reduceSub, Nat.reduceEqDiff, Nat.reduceLeDiff, Nat.reduceLT, reduceCtorEq, Nat.succ_eq_add_one]
  · have e1 : j < s := by simp only [decide_eq_true_eq] at h1; omega
    have e3 := byN_lt b (a + j)
    have e4 : IntKind.i64.wrap ((byN b (a + j) : Nat) : Int) = ((byN b (a + j) : Nat) : Int) := w64 (by omega)
    have e5 := gN_lt48 b a j (by omega)
    have e6 : gN b a j * 256 + byN b (a + j) = gN b a (j + 1) := rfl
    simp only [Int.toNat_natCast, encB_nth' (show j < bs.length by omega), hn j e1, e4, Nat.reduceLeDiff, Nat.min_eq_left (show 8 ≤ 64 by decide), Int.cast_ofNat_Int, Int.reduceBEq, Int.reduceLT, Int.reduceLE, Int.reduceSub, Int.reduceAdd, Int.reduceNeg, Int.reduceEq, Int.reduceToNat, decide_true, decide_false, decide_eq_true_eq, beq_self_eq_true, bne_self_eq_false, List.reduceReplicate, List.length_set, List.length_replicate, List.length_cons, List.length_nil, List.set_cons_zero, List.set_cons_succ, Int.toNat_natCast, go_sem, reduceIte, Nat.reduceAdd, Nat.reduceMul, Nat.reduceSub, Nat.reduceEqDiff, Nat.reduceLeDiff, Nat.reduceLT, reduceCtorEq, Nat.succ_eq_add_one]
    simp only [or8 _ _ e5 e3, e6, w64_succ (show j ≤ 100000 by omega), Int.cast_ofNat_Int, Int.reduceBEq, Int.reduceLT, Int.reduceLE, Int.reduceSub, Int.reduceAdd, Int.reduceNeg, Int.reduceEq, Int.reduceToNat, decide_true, decide_false, decide_eq_true_eq, beq_self_eq_true, bne_self_eq_false, List.reduceReplicate, List.length_set, List.length_replicate, List.length_cons, List.length_nil, List.set_cons_zero, List.set_cons_succ, Int.toNat_natCast, go_sem, reduceIte, Nat.reduceAdd, Nat.reduceMul, Nat.reduceSub, Nat.reduceEqDiff, Nat.reduceLeDiff, Nat.reduceLT, reduceCtorEq, Nat.succ_eq_add_one]
    refine ⟨⟨by omega, by omega⟩, hB _ ⟨j + 1, e1⟩ (by simp only; omega) (Wk.mk [] [] rfl rfl (by simp only [go_sem, reduceIte, Nat.reduceAdd, Nat.reduceMul, Nat.reduceSub, Nat.reduceEqDiff, Nat.reduceLeDiff, Nat.reduceLT, reduceCtorEq, Nat.succ_eq_add_one]) (by simp only [go_sem, reduceIte, Nat.reduceAdd, Nat.reduceMul, Nat.reduceSub, Nat.reduceEqDiff, Nat.reduceLeDiff, Nat.reduceLT, reduceCtorEq, Nat.succ_eq_add_one]) (by simp only [rv, go_sem, reduceIte, Nat.reduceAdd, Nat.reduceMul, Nat.reduceSub, Nat.reduceEqDiff, Nat.reduceLeDiff, Nat.reduceLT, reduceCtorEq, Nat.succ_eq_add_one]))⟩
  · have e1 : j = s := by simp only [decide_eq_false_iff_not] at h1; omega
    subst e1
    exact Fin.eq0 _ rfl rfl rfl rfl

theorem fn99 (x : UInt8) (b : List UInt8) (hb : b.length ≤ 1000) : Fn Try.prog 99 [bsl (x :: b)] [] (.own 4 1 0 (b.length + 1)) [] [.row 5 1 (encB (x :: b))] := by
  have e : encB (x :: b) = [B8 x] :: encB b := rfl
  have hm : b.length + 1 ≤ maxLen := Nat.le_trans (show b.length + 1 ≤ 1001 by omega) (by decide)
  show Fn Try.prog 99 [.sl 1 ([B8 x] :: encB b)] [] (.own 4 1 0 (b.length + 1)) [] [.row 5 1 ([B8 x] :: encB b)]
  refine Fn.of_go ok99 (by simp) ?_
  unfold s99
  simp only [nilK, Int.cast_ofNat_Int, Int.reduceBEq, Int.reduceLT, Int.reduceLE, Int.reduceSub, Int.reduceAdd, Int.reduceNeg, Int.reduceEq, Int.reduceToNat, decide_true, decide_false, decide_eq_true_eq, beq_self_eq_true, bne_self_eq_false, List.reduceReplicate, List.length_set, List.length_replicate, List.length_cons, List.length_nil, List.set_cons_zero, List.set_cons_succ, Int.toNat_natCast, go_sem, reduceIte, Nat.reduceAdd, Nat.reduceMul, Nat.reduceSub, Nat.reduceEqDiff, Nat.reduceLeDiff, Nat.reduceLT, reduceCtorEq, Nat.succ_eq_add_one]
  refine ⟨⟨by omega, hm⟩, ?_⟩
  exact Fin.mkE1 48 _ rfl rfl rfl (by simp only [retOne, rv, rvL, get, if_true, and_self, go_sem, reduceIte, Nat.reduceAdd, Nat.reduceMul, Nat.reduceSub, Nat.reduceEqDiff, Nat.reduceLeDiff, Nat.reduceLT, reduceCtorEq, Nat.succ_eq_add_one])
end Go.Eng
