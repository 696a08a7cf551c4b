/-
  Walks and plain lemmas for ScriptForges: what the functions named below compute, over the abstract states of the engine.
  No condition beyond those that each theorem states.
-/
import Derived.Test.YteonhcjaekodkaaTok6
import Derived.Test.YteonhcjaekodkaaTokS15
set_option linter.all false
set_option linter.unusedSimpArgs false
set_option maxRecDepth 20000
set_option maxHeartbeats 4000000
namespace Go.Eng
open Go Go.Proofs

theorem and_in (x : Int) (m : Nat) (hm : m < 2 ^ 63) : 0 ≤ bits .and .i64 x (m : Int) ∧ bits .and .i64 x (m : Int) ≤ m := by
  have hm' : m % 18446744073709551616 = m := Nat.mod_eq_of_lt (by omega)
  have e : ((BitVec.ofInt 64 x) &&& (BitVec.ofInt 64 (m : Int))).toNat ≤ m := by
    rw [BitVec.toNat_and, BitVec.ofInt_natCast, BitVec.toNat_ofNat, show (2 : Nat) ^ 64 = 18446744073709551616 from rfl, hm']
    exact Nat.and_le_right
  show 0 ≤ IntKind.i64.wrap ((((BitVec.ofInt 64 x) &&& (BitVec.ofInt 64 (m : Int))).toNat : Nat) : Int) ∧ IntKind.i64.wrap ((((BitVec.ofInt 64 x) &&& (BitVec.ofInt 64 (m : Int))).toNat : Nat) : Int) ≤ m
  rw [w64 (by omega)]
  omega
def wantH (h : Hd) (k : Nat) : Hd := if k = 5 then zH else if k = 2 ∨ k = 3 ∨ k = 4 then hdV k h else h
def wantE (k : Nat) : Int := if k = 5 then 8 else 0
theorem forge (h : Hd) (hi : 1 ≤ h.id ∧ h.id ≤ 65536) (hg : 2 ≤ h.gen ∧ h.gen ≤ 257) (hr : 0 ≤ h.route ∧ h.route ≤ 65535) (hh : 0 ≤ h.hint ∧ h.hint < 6) (k : Nat) (hk : k < 7) :
    parR (tokR 0 k [] [tokB h]) = .tup [.agg (wantH h k).enc, I (wantE k)] := by
  have hok : h.ok := ⟨by omega, by omega, by omega, by omega⟩
  have e1 : tokR 0 (k : Int) [] [tokB h] = tokV k (tokB h) := by
    unfold tokR
    rw [if_neg (by simp; omega)]
    rfl
  rw [e1, tokV_yes (parse_tokB h hok)]
  have fin : ∀ x : Hd, x.ok → parR (tokB x) = .tup [.agg x.enc, I 0] := fun x hx => parR_yes (parse_tokB x hx)
  by_cases k5 : k = 5
  · subst k5
    rw [if_neg (by decide), if_pos (by decide), parR_no (parse_flip h hok)]
    rfl
  have we : wantE k = 0 := by simp [wantE, k5]
  by_cases kk : k = 2 ∨ k = 3 ∨ k = 4
  · have kk' : (k : Int) = 2 ∨ (k : Int) = 3 ∨ (k : Int) = 4 := by omega
    have wh : wantH h k = hdV k h := by unfold wantH; rw [if_neg k5, if_pos kk]
    rw [if_pos kk', wh, we]
    have ho : (hdV k h).ok := by
      rcases kk with rfl | rfl | rfl
      · exact ⟨hok.1, ⟨by simp [hdV]; omega, by simp [hdV]; omega⟩, hok.2.2⟩
      · exact ⟨hok.1, ⟨by simp [hdV]; omega, by simp [hdV]; omega⟩, hok.2.2⟩
      · refine ⟨hok.1, hok.2.1, ?_, hok.2.2.2⟩
        have : (hdV (4 : Nat) h).route = (h.route + 1).tmod 65536 := rfl
        rw [this, Int.tmod_eq_emod_of_nonneg (by omega)]
        omega
    unfold orE
    rw [if_pos ho]
    exact fin _ ho
  · have kk' : ¬ ((k : Int) = 2 ∨ (k : Int) = 3 ∨ (k : Int) = 4) := by omega
    have wh : wantH h k = h := by unfold wantH; rw [if_neg k5, if_neg kk]
    rw [if_neg kk', if_neg (by omega), wh, we]
    exact fin _ hok

theorem fn14 (h : Hd) : Fn Try.prog 14 [.agg h.enc] [] (Bo true) [] [] := by
  refine Fn.of_go ok14 (by simp) ?_
  unfold s14 Hd.enc
  obtain ⟨id, gen, route, hint⟩ := h
  have b1 := and_in id 65535 (by decide)
  have b2 := and_in gen 255 (by decide)
  have b3 := and_in route 65535 (by decide)
  have b4 := and_in hint 255 (by decide)
  simp only [Int.cast_ofNat_Int] at b1 b2 b3 b4
  simp only [Int.cast_ofNat_Int, Int.reduceBEq, Int.reduceLT, Int.reduceLE, Int.reduceSub, Int.reduceAdd, Int.reduceNeg, Int.reduceEq, Int.reduceToNat, decide_true, decide_false, decide_eq_true_eq, beq_self_eq_true, bne_self_eq_false, List.reduceReplicate, List.length_set, List.length_replicate, List.length_cons, List.length_nil, List.set_cons_zero, List.set_cons_succ, Int.toNat_natCast, go_sem, reduceIte, Nat.reduceAdd, Nat.reduceMul, Nat.reduceSub, Nat.reduceEqDiff, Nat.reduceLeDiff, Nat.reduceLT, reduceCtorEq, Nat.succ_eq_add_one]
  generalize bits .and .i64 id 65535 = id at b1 ⊢
  generalize bits .and .i64 gen 255 = gen at b2 ⊢
  generalize bits .and .i64 route 65535 = route at b3 ⊢
  generalize bits .and .i64 hint 255 = hint at b4 ⊢
  have w1 : IntKind.i64.wrap (1 + id) = 1 + id := w64 (by omega)
  have w2 : IntKind.i64.wrap (2 + gen) = 2 + gen := w64 (by omega)
  have m1 : 0 ≤ hint.tmod 6 := Int.tmod_nonneg _ (by omega)
  have m2 : hint.tmod 6 < 6 := Int.tmod_lt_of_pos _ (by omega)
  simp only [w1, w2]
  generalize hint.tmod 6 = hint at m1 m2 ⊢
  have c1 : 1 ≤ 1 + id ∧ 1 + id ≤ 65536 := by omega
  have c2 : 2 ≤ 2 + gen ∧ 2 + gen ≤ 257 := by omega
  generalize 1 + id = id at c1 ⊢
  generalize 2 + gen = gen at c2 ⊢
  have hF := fn51 ⟨id, gen, route, hint⟩
  rw [if_pos ⟨by simp only; omega, by simp only; omega, by simp only; omega, by simp only; omega⟩] at hF
  have fg := forge ⟨id, gen, route, hint⟩ c1 c2 (by simp only; omega) (by simp only; omega)
  refine ⟨by decide, ?_⟩
  generalize tokB ⟨id, gen, route, hint⟩ = tk at hF fg
  refine goCall0 hF rfl rfl ?_
  simp only [Int.cast_ofNat_Int, Int.reduceBEq, Int.reduceLT, Int.reduceLE, Int.reduceSub, Int.reduceAdd, Int.reduceNeg, Int.reduceEq, Int.reduceToNat, decide_true, decide_false, decide_eq_true_eq, beq_self_eq_true, bne_self_eq_false, List.reduceReplicate, List.length_set, List.length_replicate, List.length_cons, List.length_nil, List.set_cons_zero, List.set_cons_succ, Int.toNat_natCast, go_sem, reduceIte, Nat.reduceAdd, Nat.reduceMul, Nat.reduceSub, Nat.reduceEqDiff, Nat.reduceLeDiff, Nat.reduceLT, reduceCtorEq, Nat.succ_eq_add_one]
  refine go_loop (fun j : {j : Nat // j ≤ 7} => ⟨1000, [(1, .ptr 8 0), (3, bsl tk), (4, I j.1)], [(8, .box [I id, I gen, I route, I hint])]⟩) (fun j => 7 - j.1) ⟨0, by omega⟩
    (Wk.mk [(8, 8)] [] rfl rfl (by simp only [rvH, rvO, rvL, rv, go_sem, reduceIte, Nat.reduceAdd, Nat.reduceMul, Nat.reduceSub, Nat.reduceEqDiff, Nat.reduceLeDiff, Nat.reduceLT, reduceCtorEq, Nat.succ_eq_add_one]) (by simp only [go_sem, reduceIte, Nat.reduceAdd, Nat.reduceMul, Nat.reduceSub, Nat.reduceEqDiff, Nat.reduceLeDiff, Nat.reduceLT, reduceCtorEq, Nat.succ_eq_add_one]) (by simp only [rv, go_sem, reduceIte, Nat.reduceAdd, Nat.reduceMul, Nat.reduceSub, Nat.reduceEqDiff, Nat.reduceLeDiff, Nat.reduceLT, reduceCtorEq, Nat.succ_eq_add_one]; try rfl)) ?_
  intro j B hB
  obtain ⟨j, hj⟩ := j
  simp only [go_sem, reduceIte, Nat.reduceAdd, Nat.reduceMul, Nat.reduceSub, Nat.reduceEqDiff, Nat.reduceLeDiff, Nat.reduceLT, reduceCtorEq, Nat.succ_eq_add_one]
  refine goIf_split (fun h1 => ?_) (fun h1 => ?_) <;> simp only [h1, go_sem, reduceIte, Nat.reduceAdd, Nat.reduceMul, Nat.reduceSub, Nat.reduceEqDiff, Nat.reduceLeDiff, Nat.reduceLT, reduceCtorEq, Nat.succ_eq_add_one]
  · have e1 : j < 7 := by simp only [decide_eq_true_eq] at h1; omega
    have fj := fg j e1
    have hP := fn56 (tokR 0 j [] [tk])
    rw [fj] at hP
    have w9 := w64_succ (p := j) (by omega)
    simp only [List.replicate, List.set, List.length, Int.cast_ofNat_Int, Int.reduceBEq, Int.reduceLT, Int.reduceLE, Int.reduceSub, Int.reduceAdd, Int.reduceNeg, Int.reduceEq, Int.reduceToNat, decide_true, decide_false, decide_eq_true_eq, beq_self_eq_true, bne_self_eq_false, List.reduceReplicate, List.length_set, List.length_replicate, List.length_cons, List.length_nil, List.set_cons_zero, List.set_cons_succ, Int.toNat_natCast, go_sem, reduceIte, Nat.reduceAdd, Nat.reduceMul, Nat.reduceSub, Nat.reduceEqDiff, Nat.reduceLeDiff, Nat.reduceLT, reduceCtorEq, Nat.succ_eq_add_one]
    refine goCallZ (fn54 0 j [] [tk]) (by simp [rvL, rv, get, encBB, encB]) rfl rfl rfl ?_
    simp only [Int.cast_ofNat_Int, Int.reduceBEq, Int.reduceLT, Int.reduceLE, Int.reduceSub, Int.reduceAdd, Int.reduceNeg, Int.reduceEq, Int.reduceToNat, decide_true, decide_false, decide_eq_true_eq, beq_self_eq_true, bne_self_eq_false, List.reduceReplicate, List.length_set, List.length_replicate, List.length_cons, List.length_nil, List.set_cons_zero, List.set_cons_succ, Int.toNat_natCast, go_sem, reduceIte, Nat.reduceAdd, Nat.reduceMul, Nat.reduceSub, Nat.reduceEqDiff, Nat.reduceLeDiff, Nat.reduceLT, reduceCtorEq, Nat.succ_eq_add_one]
    refine goCall0 hP rfl rfl ?_
    simp only [Hd.enc, Int.cast_ofNat_Int, Int.reduceBEq, Int.reduceLT, Int.reduceLE, Int.reduceSub, Int.reduceAdd, Int.reduceNeg, Int.reduceEq, Int.reduceToNat, decide_true, decide_false, decide_eq_true_eq, beq_self_eq_true, bne_self_eq_false, List.reduceReplicate, List.length_set, List.length_replicate, List.length_cons, List.length_nil, List.set_cons_zero, List.set_cons_succ, Int.toNat_natCast, go_sem, reduceIte, Nat.reduceAdd, Nat.reduceMul, Nat.reduceSub, Nat.reduceEqDiff, Nat.reduceLeDiff, Nat.reduceLT, reduceCtorEq, Nat.succ_eq_add_one]
    have w4 : IntKind.i64.wrap (gen + 1) = gen + 1 := w64 (by omega)
    have w5 : IntKind.i64.wrap (gen - 1) = gen - 1 := w64 (by omega)
    have w6 : IntKind.i64.wrap (route + 1) = route + 1 := w64 (by omega)
    rcases (show j = 0 ∨ j = 1 ∨ j = 2 ∨ j = 3 ∨ j = 4 ∨ j = 5 ∨ j = 6 by omega) with rfl | rfl | rfl | rfl | rfl | rfl | rfl
    · have wh : wantH ⟨id, gen, route, hint⟩ 0 = ⟨id, gen, route, hint⟩ := rfl
      have we : wantE 0 = 0 := rfl
      have cj : ((0 : Nat) : Int) = 0 := rfl
      have nj : ((0 : Int) != 5) = true := rfl
      simp only [wh, we, cj, nj, Bool.not_true, beq_self_eq_true, w4, w5, w6, bneI, bneB, b80, Int.cast_ofNat_Int, Int.reduceBEq, Int.reduceLT, Int.reduceLE, Int.reduceSub, Int.reduceAdd, Int.reduceNeg, Int.reduceEq, Int.reduceToNat, decide_true, decide_false, decide_eq_true_eq, beq_self_eq_true, bne_self_eq_false, List.reduceReplicate, List.length_set, List.length_replicate, List.length_cons, List.length_nil, List.set_cons_zero, List.set_cons_succ, Int.toNat_natCast, go_sem, reduceIte, Nat.reduceAdd, Nat.reduceMul, Nat.reduceSub, Nat.reduceEqDiff, Nat.reduceLeDiff, Nat.reduceLT, reduceCtorEq, Nat.succ_eq_add_one]
      
      exact hB _ ⟨1, by omega⟩ (by simp only; omega) (Wk.mk [(8, 8)] [] rfl rfl (by simp only [rvH, rvO, rvL, rv, go_sem, reduceIte, Nat.reduceAdd, Nat.reduceMul, Nat.reduceSub, Nat.reduceEqDiff, Nat.reduceLeDiff, Nat.reduceLT, reduceCtorEq, Nat.succ_eq_add_one]) (by simp only [go_sem, reduceIte, Nat.reduceAdd, Nat.reduceMul, Nat.reduceSub, Nat.reduceEqDiff, Nat.reduceLeDiff, Nat.reduceLT, reduceCtorEq, Nat.succ_eq_add_one]) (by simp only [rv, go_sem, reduceIte, Nat.reduceAdd, Nat.reduceMul, Nat.reduceSub, Nat.reduceEqDiff, Nat.reduceLeDiff, Nat.reduceLT, reduceCtorEq, Nat.succ_eq_add_one]; try rfl))
    · have wh : wantH ⟨id, gen, route, hint⟩ 1 = ⟨id, gen, route, hint⟩ := rfl
      have we : wantE 1 = 0 := rfl
      have cj : ((1 : Nat) : Int) = 1 := rfl
      have nj : ((1 : Int) != 5) = true := rfl
      simp only [wh, we, cj, nj, Bool.not_true, beq_self_eq_true, w4, w5, w6, bneI, bneB, b80, Int.cast_ofNat_Int, Int.reduceBEq, Int.reduceLT, Int.reduceLE, Int.reduceSub, Int.reduceAdd, Int.reduceNeg, Int.reduceEq, Int.reduceToNat, decide_true, decide_false, decide_eq_true_eq, beq_self_eq_true, bne_self_eq_false, List.reduceReplicate, List.length_set, List.length_replicate, List.length_cons, List.length_nil, List.set_cons_zero, List.set_cons_succ, Int.toNat_natCast, go_sem, reduceIte, Nat.reduceAdd, Nat.reduceMul, Nat.reduceSub, Nat.reduceEqDiff, Nat.reduceLeDiff, Nat.reduceLT, reduceCtorEq, Nat.succ_eq_add_one]
      
      exact hB _ ⟨2, by omega⟩ (by simp only; omega) (Wk.mk [(8, 8)] [] rfl rfl (by simp only [rvH, rvO, rvL, rv, go_sem, reduceIte, Nat.reduceAdd, Nat.reduceMul, Nat.reduceSub, Nat.reduceEqDiff, Nat.reduceLeDiff, Nat.reduceLT, reduceCtorEq, Nat.succ_eq_add_one]) (by simp only [go_sem, reduceIte, Nat.reduceAdd, Nat.reduceMul, Nat.reduceSub, Nat.reduceEqDiff, Nat.reduceLeDiff, Nat.reduceLT, reduceCtorEq, Nat.succ_eq_add_one]) (by simp only [rv, go_sem, reduceIte, Nat.reduceAdd, Nat.reduceMul, Nat.reduceSub, Nat.reduceEqDiff, Nat.reduceLeDiff, Nat.reduceLT, reduceCtorEq, Nat.succ_eq_add_one]; try rfl))
    · have wh : wantH ⟨id, gen, route, hint⟩ 2 = ⟨id, gen + 1, route, hint⟩ := rfl
      have we : wantE 2 = 0 := rfl
      have cj : ((2 : Nat) : Int) = 2 := rfl
      have nj : ((2 : Int) != 5) = true := rfl
      simp only [wh, we, cj, nj, Bool.not_true, beq_self_eq_true, w4, w5, w6, bneI, bneB, b80, Int.cast_ofNat_Int, Int.reduceBEq, Int.reduceLT, Int.reduceLE, Int.reduceSub, Int.reduceAdd, Int.reduceNeg, Int.reduceEq, Int.reduceToNat, decide_true, decide_false, decide_eq_true_eq, beq_self_eq_true, bne_self_eq_false, List.reduceReplicate, List.length_set, List.length_replicate, List.length_cons, List.length_nil, List.set_cons_zero, List.set_cons_succ, Int.toNat_natCast, go_sem, reduceIte, Nat.reduceAdd, Nat.reduceMul, Nat.reduceSub, Nat.reduceEqDiff, Nat.reduceLeDiff, Nat.reduceLT, reduceCtorEq, Nat.succ_eq_add_one]
      
      exact hB _ ⟨3, by omega⟩ (by simp only; omega) (Wk.mk [(8, 8)] [] rfl rfl (by simp only [rvH, rvO, rvL, rv, go_sem, reduceIte, Nat.reduceAdd, Nat.reduceMul, Nat.reduceSub, Nat.reduceEqDiff, Nat.reduceLeDiff, Nat.reduceLT, reduceCtorEq, Nat.succ_eq_add_one]) (by simp only [go_sem, reduceIte, Nat.reduceAdd, Nat.reduceMul, Nat.reduceSub, Nat.reduceEqDiff, Nat.reduceLeDiff, Nat.reduceLT, reduceCtorEq, Nat.succ_eq_add_one]) (by simp only [rv, go_sem, reduceIte, Nat.reduceAdd, Nat.reduceMul, Nat.reduceSub, Nat.reduceEqDiff, Nat.reduceLeDiff, Nat.reduceLT, reduceCtorEq, Nat.succ_eq_add_one]; try rfl))
    · have wh : wantH ⟨id, gen, route, hint⟩ 3 = ⟨id, gen - 1, route, hint⟩ := rfl
      have we : wantE 3 = 0 := rfl
      have cj : ((3 : Nat) : Int) = 3 := rfl
      have nj : ((3 : Int) != 5) = true := rfl
      simp only [wh, we, cj, nj, Bool.not_true, beq_self_eq_true, w4, w5, w6, bneI, bneB, b80, Int.cast_ofNat_Int, Int.reduceBEq, Int.reduceLT, Int.reduceLE, Int.reduceSub, Int.reduceAdd, Int.reduceNeg, Int.reduceEq, Int.reduceToNat, decide_true, decide_false, decide_eq_true_eq, beq_self_eq_true, bne_self_eq_false, List.reduceReplicate, List.length_set, List.length_replicate, List.length_cons, List.length_nil, List.set_cons_zero, List.set_cons_succ, Int.toNat_natCast, go_sem, reduceIte, Nat.reduceAdd, Nat.reduceMul, Nat.reduceSub, Nat.reduceEqDiff, Nat.reduceLeDiff, Nat.reduceLT, reduceCtorEq, Nat.succ_eq_add_one]
      
      exact hB _ ⟨4, by omega⟩ (by simp only; omega) (Wk.mk [(8, 8)] [] rfl rfl (by simp only [rvH, rvO, rvL, rv, go_sem, reduceIte, Nat.reduceAdd, Nat.reduceMul, Nat.reduceSub, Nat.reduceEqDiff, Nat.reduceLeDiff, Nat.reduceLT, reduceCtorEq, Nat.succ_eq_add_one]) (by simp only [go_sem, reduceIte, Nat.reduceAdd, Nat.reduceMul, Nat.reduceSub, Nat.reduceEqDiff, Nat.reduceLeDiff, Nat.reduceLT, reduceCtorEq, Nat.succ_eq_add_one]) (by simp only [rv, go_sem, reduceIte, Nat.reduceAdd, Nat.reduceMul, Nat.reduceSub, Nat.reduceEqDiff, Nat.reduceLeDiff, Nat.reduceLT, reduceCtorEq, Nat.succ_eq_add_one]; try rfl))
    · have wh : wantH ⟨id, gen, route, hint⟩ 4 = ⟨id, gen, (route + 1).tmod 65536, hint⟩ := rfl
      have we : wantE 4 = 0 := rfl
      have cj : ((4 : Nat) : Int) = 4 := rfl
      have nj : ((4 : Int) != 5) = true := rfl
      simp only [wh, we, cj, nj, Bool.not_true, beq_self_eq_true, w4, w5, w6, bneI, bneB, b80, Int.cast_ofNat_Int, Int.reduceBEq, Int.reduceLT, Int.reduceLE, Int.reduceSub, Int.reduceAdd, Int.reduceNeg, Int.reduceEq, Int.reduceToNat, decide_true, decide_false, decide_eq_true_eq, beq_self_eq_true, bne_self_eq_false, List.reduceReplicate, List.length_set, List.length_replicate, List.length_cons, List.length_nil, List.set_cons_zero, List.set_cons_succ, Int.toNat_natCast, go_sem, reduceIte, Nat.reduceAdd, Nat.reduceMul, Nat.reduceSub, Nat.reduceEqDiff, Nat.reduceLeDiff, Nat.reduceLT, reduceCtorEq, Nat.succ_eq_add_one]
      refine ⟨by decide, ?_⟩
      exact hB _ ⟨5, by omega⟩ (by simp only; omega) (Wk.mk [(8, 8)] [] rfl rfl (by simp only [rvH, rvO, rvL, rv, go_sem, reduceIte, Nat.reduceAdd, Nat.reduceMul, Nat.reduceSub, Nat.reduceEqDiff, Nat.reduceLeDiff, Nat.reduceLT, reduceCtorEq, Nat.succ_eq_add_one]) (by simp only [go_sem, reduceIte, Nat.reduceAdd, Nat.reduceMul, Nat.reduceSub, Nat.reduceEqDiff, Nat.reduceLeDiff, Nat.reduceLT, reduceCtorEq, Nat.succ_eq_add_one]) (by simp only [rv, go_sem, reduceIte, Nat.reduceAdd, Nat.reduceMul, Nat.reduceSub, Nat.reduceEqDiff, Nat.reduceLeDiff, Nat.reduceLT, reduceCtorEq, Nat.succ_eq_add_one]; try rfl))
    · have wh : wantH ⟨id, gen, route, hint⟩ 5 = ⟨0, 0, 0, 0⟩ := rfl
      have we : wantE 5 = 8 := rfl
      have cj : ((5 : Nat) : Int) = 5 := rfl
      have nj : ((5 : Int) != 5) = false := rfl
      simp only [wh, we, cj, nj, Bool.not_true, beq_self_eq_true, w4, w5, w6, bneI, bneB, b80, Int.cast_ofNat_Int, Int.reduceBEq, Int.reduceLT, Int.reduceLE, Int.reduceSub, Int.reduceAdd, Int.reduceNeg, Int.reduceEq, Int.reduceToNat, decide_true, decide_false, decide_eq_true_eq, beq_self_eq_true, bne_self_eq_false, List.reduceReplicate, List.length_set, List.length_replicate, List.length_cons, List.length_nil, List.set_cons_zero, List.set_cons_succ, Int.toNat_natCast, go_sem, reduceIte, Nat.reduceAdd, Nat.reduceMul, Nat.reduceSub, Nat.reduceEqDiff, Nat.reduceLeDiff, Nat.reduceLT, reduceCtorEq, Nat.succ_eq_add_one]
      
      exact hB _ ⟨6, by omega⟩ (by simp only; omega) (Wk.mk [(8, 8)] [] rfl rfl (by simp only [rvH, rvO, rvL, rv, go_sem, reduceIte, Nat.reduceAdd, Nat.reduceMul, Nat.reduceSub, Nat.reduceEqDiff, Nat.reduceLeDiff, Nat.reduceLT, reduceCtorEq, Nat.succ_eq_add_one]) (by simp only [go_sem, reduceIte, Nat.reduceAdd, Nat.reduceMul, Nat.reduceSub, Nat.reduceEqDiff, Nat.reduceLeDiff, Nat.reduceLT, reduceCtorEq, Nat.succ_eq_add_one]) (by simp only [rv, go_sem, reduceIte, Nat.reduceAdd, Nat.reduceMul, Nat.reduceSub, Nat.reduceEqDiff, Nat.reduceLeDiff, Nat.reduceLT, reduceCtorEq, Nat.succ_eq_add_one]; try rfl))
    · have wh : wantH ⟨id, gen, route, hint⟩ 6 = ⟨id, gen, route, hint⟩ := rfl
      have we : wantE 6 = 0 := rfl
      have cj : ((6 : Nat) : Int) = 6 := rfl
      have nj : ((6 : Int) != 5) = true := rfl
      simp only [wh, we, cj, nj, Bool.not_true, beq_self_eq_true, w4, w5, w6, bneI, bneB, b80, Int.cast_ofNat_Int, Int.reduceBEq, Int.reduceLT, Int.reduceLE, Int.reduceSub, Int.reduceAdd, Int.reduceNeg, Int.reduceEq, Int.reduceToNat, decide_true, decide_false, decide_eq_true_eq, beq_self_eq_true, bne_self_eq_false, List.reduceReplicate, List.length_set, List.length_replicate, List.length_cons, List.length_nil, List.set_cons_zero, List.set_cons_succ, Int.toNat_natCast, go_sem, reduceIte, Nat.reduceAdd, Nat.reduceMul, Nat.reduceSub, Nat.reduceEqDiff, Nat.reduceLeDiff, Nat.reduceLT, reduceCtorEq, Nat.succ_eq_add_one]
      
      exact hB _ ⟨7, by omega⟩ (by simp only; omega) (Wk.mk [(8, 8)] [] rfl rfl (by simp only [rvH, rvO, rvL, rv, go_sem, reduceIte, Nat.reduceAdd, Nat.reduceMul, Nat.reduceSub, Nat.reduceEqDiff, Nat.reduceLeDiff, Nat.reduceLT, reduceCtorEq, Nat.succ_eq_add_one]) (by simp only [go_sem, reduceIte, Nat.reduceAdd, Nat.reduceMul, Nat.reduceSub, Nat.reduceEqDiff, Nat.reduceLeDiff, Nat.reduceLT, reduceCtorEq, Nat.succ_eq_add_one]) (by simp only [rv, go_sem, reduceIte, Nat.reduceAdd, Nat.reduceMul, Nat.reduceSub, Nat.reduceEqDiff, Nat.reduceLeDiff, Nat.reduceLT, reduceCtorEq, Nat.succ_eq_add_one]; try rfl))
  · refine goCall0 Scr.fn18 rfl rfl ?_
    simp only [Int.cast_ofNat_Int, Int.reduceBEq, Int.reduceLT, Int.reduceLE, Int.reduceSub, Int.reduceAdd, Int.reduceNeg, Int.reduceEq, Int.reduceToNat, decide_true, decide_false, decide_eq_true_eq, beq_self_eq_true, bne_self_eq_false, List.reduceReplicate, List.length_set, List.length_replicate, List.length_cons, List.length_nil, List.set_cons_zero, List.set_cons_succ, Int.toNat_natCast, go_sem, reduceIte, Nat.reduceAdd, Nat.reduceMul, Nat.reduceSub, Nat.reduceEqDiff, Nat.reduceLeDiff, Nat.reduceLT, reduceCtorEq, Nat.succ_eq_add_one]
    exact Fin.eq0 _ rfl rfl rfl rfl
end Go.Eng
