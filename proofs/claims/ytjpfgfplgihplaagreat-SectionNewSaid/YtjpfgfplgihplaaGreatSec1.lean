/-
  Walks and plain lemmas for SectionNew: what the functions named below compute, over the abstract states of the engine.
  No condition beyond those that each theorem states.
-/
import Derived.Test.YtjpfgfplgihplaaGreatBsz1
set_option linter.all false
set_option linter.unusedSimpArgs false
set_option maxRecDepth 20000
set_option maxHeartbeats 4000000
namespace Go.Eng
open Go Go.Proofs

theorem Fin.mkE1 {res : List SRes} {r : AV} {t : List (Nat × AV)} {h : List (Nat × Ob)} {e : TypeId} {sz : Nat} {xs : List (List AV)} (b : Nat) (vs : List AV) (h1 : retV t h res = some vs) (hb : get h b = some (.row e sz xs))
    (h2 : okS h [(4, b)] [] [(4, .row e sz xs)] = true) (h3 : rv h [(4, b)] [] r (retOne vs)) : Fin res r [] [.row e sz xs] t h := by
  have e : outs [] [.row e sz xs] = [(4, .row e sz xs)] := rfl
  refine ⟨[(4, b)], [], vs, h1, by rw [e]; exact h2, ?_, by simp only [rvN], h3⟩
  rw [e]
  simp only [rvH, get, if_true, hb, and_true, rvO, and_self]

abbrev slI (l : List Int) : AV := .sl 1 (encI l)
def gi (l : List Int) (i : Nat) : Int := l[i]?.getD 0
theorem encI_gi {l : List Int} {k : Nat} (h : k < l.length) : nth (encI l) k = [I (gi l k)] := by rw [encI_nth h]; simp [gi, h]
def okAt (l : List Int) (i : Nat) : Prop := 0 ≤ gi l i ∧ gi l i ≤ 6 ∧ (0 < i → gi l (i - 1) < gi l i)
def okL (l : List Int) : Prop := ∀ i, i < l.length → okAt l i
open Classical in
noncomputable def errL (l : List Int) : Int := if l.length = 0 ∨ 3 < l.length then 2 else if okL l then 0 else 1
abbrev lkZ : List AV := [Nl, Z, Z, Z, Z]
open Classical in
noncomputable def lockR (l : List Int) : AV := if errL l = 0 then .tup [.agg [slI l, Z, Z, Z, Z], I 0] else .tup [.agg lkZ, I (errL l)]

theorem fn58 (x : Int) (l : List Int) (hl : l.length ≤ 1000) : Fn Tryz.prog 58 [slI (x :: l)] [] (.own 4 1 0 (l.length + 1)) [] [.row 3 1 (encI (x :: l))] := by
  have e : encI (x :: l) = [I x] :: encI l := rfl
  have hm : l.length + 1 ≤ maxLen := Nat.le_trans (show l.length + 1 ≤ 1001 by omega) (by decide)
  show Fn Tryz.prog 58 [.sl 1 ([I x] :: encI l)] [] (.own 4 1 0 (l.length + 1)) [] [.row 3 1 ([I x] :: encI l)]
  refine Fn.of_go ok58 (by simp) ?_
  unfold s58
  simp only [nilK, Int.cast_ofNat_Int, Int.reduceBEq, Int.reduceLT, Int.reduceLE, Int.reduceSub, Int.reduceAdd, Int.reduceNeg, Int.reduceEq, Int.reduceToNat, decide_true, decide_false, decide_eq_true_eq, beq_self_eq_true, bne_self_eq_false, List.reduceReplicate, List.length_set, List.length_replicate, List.length_cons, List.length_nil, List.set_cons_zero, List.set_cons_succ, Int.toNat_natCast, go_sem, reduceIte, Nat.reduceAdd, Nat.reduceMul, Nat.reduceSub, Nat.reduceEqDiff, Nat.reduceLeDiff, Nat.reduceLT, reduceCtorEq, Nat.succ_eq_add_one]
  refine ⟨⟨by omega, hm⟩, ?_⟩
  exact Fin.mkE1 48 _ rfl rfl rfl (by simp only [retOne, rv, rvL, get, if_true, and_self, go_sem, reduceIte, Nat.reduceAdd, Nat.reduceMul, Nat.reduceSub, Nat.reduceEqDiff, Nat.reduceLeDiff, Nat.reduceLT, reduceCtorEq, Nat.succ_eq_add_one])

theorem fn26 (l : List Int) (hl : l.length ≤ 1000) : Fn Tryz.prog 26 [slI l] [] (lockR l) [] [] := by
  refine Fn.of_go ok26 (by simp) ?_
  unfold s26 lockR
  simp only [Int.cast_ofNat_Int, Int.reduceBEq, Int.reduceLT, Int.reduceLE, Int.reduceSub, Int.reduceAdd, Int.reduceNeg, Int.reduceEq, Int.reduceToNat, decide_true, decide_false, decide_eq_true_eq, beq_self_eq_true, bne_self_eq_false, List.reduceReplicate, List.length_set, List.length_replicate, List.length_cons, List.length_nil, List.set_cons_zero, List.set_cons_succ, Int.toNat_natCast, go_sem, reduceIte, Nat.reduceAdd, Nat.reduceMul, Nat.reduceSub, Nat.reduceEqDiff, Nat.reduceLeDiff, Nat.reduceLT, reduceCtorEq, Nat.succ_eq_add_one]
  by_cases h0 : l.length = 0
  · have e0 : ((l.length : Int) == 0) = true := by simp [h0]
    have e2 : errL l = 2 := by unfold errL; rw [if_pos (Or.inl h0)]
    rw [e2, if_neg (by decide)]
    simp only [e0, Int.cast_ofNat_Int, Int.reduceBEq, Int.reduceLT, Int.reduceLE, Int.reduceSub, Int.reduceAdd, Int.reduceNeg, Int.reduceEq, Int.reduceToNat, decide_true, decide_false, decide_eq_true_eq, beq_self_eq_true, bne_self_eq_false, List.reduceReplicate, List.length_set, List.length_replicate, List.length_cons, List.length_nil, List.set_cons_zero, List.set_cons_succ, Int.toNat_natCast, go_sem, reduceIte, Nat.reduceAdd, Nat.reduceMul, Nat.reduceSub, Nat.reduceEqDiff, Nat.reduceLeDiff, Nat.reduceLT, reduceCtorEq, Nat.succ_eq_add_one]
    exact Fin.eq0 _ rfl rfl rfl rfl
  have e0 : ((l.length : Int) == 0) = false := by simp [h0]
  by_cases h3 : 3 < l.length
  · have e3 : decide ((3 : Int) < (l.length : Int)) = true := by simp; omega
    have e2 : errL l = 2 := by unfold errL; rw [if_pos (Or.inr h3)]
    rw [e2, if_neg (by decide)]
    simp only [e0, e3, Int.cast_ofNat_Int, Int.reduceBEq, Int.reduceLT, Int.reduceLE, Int.reduceSub, Int.reduceAdd, Int.reduceNeg, Int.reduceEq, Int.reduceToNat, decide_true, decide_false, decide_eq_true_eq, beq_self_eq_true, bne_self_eq_false, List.reduceReplicate, List.length_set, List.length_replicate, List.length_cons, List.length_nil, List.set_cons_zero, List.set_cons_succ, Int.toNat_natCast, go_sem, reduceIte, Nat.reduceAdd, Nat.reduceMul, Nat.reduceSub, Nat.reduceEqDiff, Nat.reduceLeDiff, Nat.reduceLT, reduceCtorEq, Nat.succ_eq_add_one]
    exact Fin.eq0 _ rfl rfl rfl rfl
  have e3 : decide ((3 : Int) < (l.length : Int)) = false := by simp; omega
  have hE0 : okL l → errL l = 0 := fun h => by unfold errL; rw [if_neg (by omega), if_pos h]
  have hE1 : ¬ okL l → errL l = 1 := fun h => by unfold errL; rw [if_neg (by omega), if_neg h]
  simp only [e0, e3, Int.cast_ofNat_Int, Int.reduceBEq, Int.reduceLT, Int.reduceLE, Int.reduceSub, Int.reduceAdd, Int.reduceNeg, Int.reduceEq, Int.reduceToNat, decide_true, decide_false, decide_eq_true_eq, beq_self_eq_true, bne_self_eq_false, List.reduceReplicate, List.length_set, List.length_replicate, List.length_cons, List.length_nil, List.set_cons_zero, List.set_cons_succ, Int.toNat_natCast, go_sem, reduceIte, Nat.reduceAdd, Nat.reduceMul, Nat.reduceSub, Nat.reduceEqDiff, Nat.reduceLeDiff, Nat.reduceLT, reduceCtorEq, Nat.succ_eq_add_one]
  refine go_loop (fun j : {j : Nat // j ≤ l.length ∧ ∀ i, i < j → okAt l i} => ⟨1000, [(0, slI l), (2, .ptr 8 0), (15, slI l), (16, I l.length), (17, I j.1)], [(8, .box lkZ)]⟩) (fun j => l.length - j.1) ⟨0, by omega, fun i hi => absurd hi (by omega)⟩
    (Wk.mk [(8, 8)] [] rfl rfl (by simp only [rvH, rvO, rvL, rv, go_sem, reduceIte, Nat.reduceAdd, Nat.reduceMul, Nat.reduceSub, Nat.reduceEqDiff, Nat.reduceLeDiff, Nat.reduceLT, reduceCtorEq, Nat.succ_eq_add_one]) (by simp only [go_sem, reduceIte, Nat.reduceAdd, Nat.reduceMul, Nat.reduceSub, Nat.reduceEqDiff, Nat.reduceLeDiff, Nat.reduceLT, reduceCtorEq, Nat.succ_eq_add_one]) (by simp only [rv, go_sem, reduceIte, Nat.reduceAdd, Nat.reduceMul, Nat.reduceSub, Nat.reduceEqDiff, Nat.reduceLeDiff, Nat.reduceLT, reduceCtorEq, Nat.succ_eq_add_one] <;> simp)) ?_
  intro j B hB
  obtain ⟨j, hj, hk⟩ := j
  simp only [go_sem, reduceIte, Nat.reduceAdd, Nat.reduceMul, Nat.reduceSub, Nat.reduceEqDiff, Nat.reduceLeDiff, Nat.reduceLT, reduceCtorEq, Nat.succ_eq_add_one]
  refine goIf_split (fun h1 => ?_) (fun h1 => ?_) <;> simp only [h1, go_sem, reduceIte, Nat.reduceAdd, Nat.reduceMul, Nat.reduceSub, Nat.reduceEqDiff, Nat.reduceLeDiff, Nat.reduceLT, reduceCtorEq, Nat.succ_eq_add_one]
  · have e1 : j < l.length := by simp only [decide_eq_true_eq] at h1; omega
    have e9 : ¬ okAt l j → errL l = 1 := fun hn => hE1 fun h => hn (h j e1)
    simp only [Int.toNat_natCast, encI_gi e1, Int.cast_ofNat_Int, Int.reduceBEq, Int.reduceLT, Int.reduceLE, Int.reduceSub, Int.reduceAdd, Int.reduceNeg, Int.reduceEq, Int.reduceToNat, decide_true, decide_false, decide_eq_true_eq, beq_self_eq_true, bne_self_eq_false, List.reduceReplicate, List.length_set, List.length_replicate, List.length_cons, List.length_nil, List.set_cons_zero, List.set_cons_succ, Int.toNat_natCast, go_sem, reduceIte, Nat.reduceAdd, Nat.reduceMul, Nat.reduceSub, Nat.reduceEqDiff, Nat.reduceLeDiff, Nat.reduceLT, reduceCtorEq, Nat.succ_eq_add_one]
    refine ⟨⟨by omega, by omega⟩, ?_⟩
    by_cases c1 : gi l j < 0
    · have d1 : decide (gi l j < 0) = true := by simp [c1]
      rw [e9 (fun h => by have := h.1; omega), if_neg (by decide)]
      simp only [d1, Int.cast_ofNat_Int, Int.reduceBEq, Int.reduceLT, Int.reduceLE, Int.reduceSub, Int.reduceAdd, Int.reduceNeg, Int.reduceEq, Int.reduceToNat, decide_true, decide_false, decide_eq_true_eq, beq_self_eq_true, bne_self_eq_false, List.reduceReplicate, List.length_set, List.length_replicate, List.length_cons, List.length_nil, List.set_cons_zero, List.set_cons_succ, Int.toNat_natCast, go_sem, reduceIte, Nat.reduceAdd, Nat.reduceMul, Nat.reduceSub, Nat.reduceEqDiff, Nat.reduceLeDiff, Nat.reduceLT, reduceCtorEq, Nat.succ_eq_add_one]
      exact Fin.eq0 _ rfl rfl rfl rfl
    have d1 : decide (gi l j < 0) = false := by simp; omega
    simp only [d1, Int.cast_ofNat_Int, Int.reduceBEq, Int.reduceLT, Int.reduceLE, Int.reduceSub, Int.reduceAdd, Int.reduceNeg, Int.reduceEq, Int.reduceToNat, decide_true, decide_false, decide_eq_true_eq, beq_self_eq_true, bne_self_eq_false, List.reduceReplicate, List.length_set, List.length_replicate, List.length_cons, List.length_nil, List.set_cons_zero, List.set_cons_succ, Int.toNat_natCast, go_sem, reduceIte, Nat.reduceAdd, Nat.reduceMul, Nat.reduceSub, Nat.reduceEqDiff, Nat.reduceLeDiff, Nat.reduceLT, reduceCtorEq, Nat.succ_eq_add_one]
    by_cases c2 : 6 < gi l j
    · have d2 : decide (6 < gi l j) = true := by simp [c2]
      rw [e9 (fun h => by have := h.2.1; omega), if_neg (by decide)]
      simp only [d2, Int.cast_ofNat_Int, Int.reduceBEq, Int.reduceLT, Int.reduceLE, Int.reduceSub, Int.reduceAdd, Int.reduceNeg, Int.reduceEq, Int.reduceToNat, decide_true, decide_false, decide_eq_true_eq, beq_self_eq_true, bne_self_eq_false, List.reduceReplicate, List.length_set, List.length_replicate, List.length_cons, List.length_nil, List.set_cons_zero, List.set_cons_succ, Int.toNat_natCast, go_sem, reduceIte, Nat.reduceAdd, Nat.reduceMul, Nat.reduceSub, Nat.reduceEqDiff, Nat.reduceLeDiff, Nat.reduceLT, reduceCtorEq, Nat.succ_eq_add_one]
      exact Fin.eq0 _ rfl rfl rfl rfl
    have d2 : decide (6 < gi l j) = false := by simp; omega
    simp only [d2, Int.cast_ofNat_Int, Int.reduceBEq, Int.reduceLT, Int.reduceLE, Int.reduceSub, Int.reduceAdd, Int.reduceNeg, Int.reduceEq, Int.reduceToNat, decide_true, decide_false, decide_eq_true_eq, beq_self_eq_true, bne_self_eq_false, List.reduceReplicate, List.length_set, List.length_replicate, List.length_cons, List.length_nil, List.set_cons_zero, List.set_cons_succ, Int.toNat_natCast, go_sem, reduceIte, Nat.reduceAdd, Nat.reduceMul, Nat.reduceSub, Nat.reduceEqDiff, Nat.reduceLeDiff, Nat.reduceLT, reduceCtorEq, Nat.succ_eq_add_one]
    rcases j with _ | i
    · have d3 : decide ((0 : Int) < ((0 : Nat) : Int)) = false := rfl
      simp only [d3, w64 (n := 1) (by omega), Int.cast_ofNat_Int, Int.reduceBEq, Int.reduceLT, Int.reduceLE, Int.reduceSub, Int.reduceAdd, Int.reduceNeg, Int.reduceEq, Int.reduceToNat, decide_true, decide_false, decide_eq_true_eq, beq_self_eq_true, bne_self_eq_false, List.reduceReplicate, List.length_set, List.length_replicate, List.length_cons, List.length_nil, List.set_cons_zero, List.set_cons_succ, Int.toNat_natCast, go_sem, reduceIte, Nat.reduceAdd, Nat.reduceMul, Nat.reduceSub, Nat.reduceEqDiff, Nat.reduceLeDiff, Nat.reduceLT, reduceCtorEq, Nat.succ_eq_add_one]
      exact hB _ ⟨1, by omega, fun i hi => by have : i = 0 := by omega
                                              subst this; exact ⟨by omega, by omega, fun h => absurd h (by omega)⟩⟩ (by simp only; omega)
        (Wk.mk [(8, 8)] [] rfl rfl (by simp only [rvH, rvO, rvL, rv, go_sem, reduceIte, Nat.reduceAdd, Nat.reduceMul, Nat.reduceSub, Nat.reduceEqDiff, Nat.reduceLeDiff, Nat.reduceLT, reduceCtorEq, Nat.succ_eq_add_one]) (by simp only [go_sem, reduceIte, Nat.reduceAdd, Nat.reduceMul, Nat.reduceSub, Nat.reduceEqDiff, Nat.reduceLeDiff, Nat.reduceLT, reduceCtorEq, Nat.succ_eq_add_one]) (by simp only [rv, go_sem, reduceIte, Nat.reduceAdd, Nat.reduceMul, Nat.reduceSub, Nat.reduceEqDiff, Nat.reduceLeDiff, Nat.reduceLT, reduceCtorEq, Nat.succ_eq_add_one] <;> simp))
    have d3 : decide ((0 : Int) < ((i + 1 : Nat) : Int)) = true := by simp
    simp only [d3, w64_pred (show i ≤ 100000 by omega), Int.toNat_natCast, encI_gi (show i < l.length by omega), Int.cast_ofNat_Int, Int.reduceBEq, Int.reduceLT, Int.reduceLE, Int.reduceSub, Int.reduceAdd, Int.reduceNeg, Int.reduceEq, Int.reduceToNat, decide_true, decide_false, decide_eq_true_eq, beq_self_eq_true, bne_self_eq_false, List.reduceReplicate, List.length_set, List.length_replicate, List.length_cons, List.length_nil, List.set_cons_zero, List.set_cons_succ, Int.toNat_natCast, go_sem, reduceIte, Nat.reduceAdd, Nat.reduceMul, Nat.reduceSub, Nat.reduceEqDiff, Nat.reduceLeDiff, Nat.reduceLT, reduceCtorEq, Nat.succ_eq_add_one]
    refine ⟨⟨by omega, by omega⟩, goIf_split (fun h2 => ?_) (fun h2 => ?_)⟩ <;> simp only [h2, Int.cast_ofNat_Int, Int.reduceBEq, Int.reduceLT, Int.reduceLE, Int.reduceSub, Int.reduceAdd, Int.reduceNeg, Int.reduceEq, Int.reduceToNat, decide_true, decide_false, decide_eq_true_eq, beq_self_eq_true, bne_self_eq_false, List.reduceReplicate, List.length_set, List.length_replicate, List.length_cons, List.length_nil, List.set_cons_zero, List.set_cons_succ, Int.toNat_natCast, go_sem, reduceIte, Nat.reduceAdd, Nat.reduceMul, Nat.reduceSub, Nat.reduceEqDiff, Nat.reduceLeDiff, Nat.reduceLT, reduceCtorEq, Nat.succ_eq_add_one]
    · have f2 : gi l (i + 1) ≤ gi l i := by simpa using h2
      rw [e9 (fun h => by have := h.2.2 (by omega); simp only [Nat.add_sub_cancel] at this; omega), if_neg (by decide)]
      exact Fin.eq0 _ rfl rfl rfl rfl
    · have f2 : gi l i < gi l (i + 1) := by simp only [decide_eq_false_iff_not] at h2; omega
      simp only [w64_succ (show i + 1 ≤ 100000 by omega), Int.cast_ofNat_Int, Int.reduceBEq, Int.reduceLT, Int.reduceLE, Int.reduceSub, Int.reduceAdd, Int.reduceNeg, Int.reduceEq, Int.reduceToNat, decide_true, decide_false, decide_eq_true_eq, beq_self_eq_true, bne_self_eq_false, List.reduceReplicate, List.length_set, List.length_replicate, List.length_cons, List.length_nil, List.set_cons_zero, List.set_cons_succ, Int.toNat_natCast, go_sem, reduceIte, Nat.reduceAdd, Nat.reduceMul, Nat.reduceSub, Nat.reduceEqDiff, Nat.reduceLeDiff, Nat.reduceLT, reduceCtorEq, Nat.succ_eq_add_one]
      exact hB _ ⟨i + 1 + 1, by omega, fun k hk' => by
          by_cases hk2 : k = i + 1
          · subst hk2; exact ⟨by omega, by omega, fun _ => by simpa using f2⟩
          · exact hk k (by omega)⟩ (by simp only; omega)
        (Wk.mk [(8, 8)] [] rfl rfl (by simp only [rvH, rvO, rvL, rv, go_sem, reduceIte, Nat.reduceAdd, Nat.reduceMul, Nat.reduceSub, Nat.reduceEqDiff, Nat.reduceLeDiff, Nat.reduceLT, reduceCtorEq, Nat.succ_eq_add_one]) (by simp only [go_sem, reduceIte, Nat.reduceAdd, Nat.reduceMul, Nat.reduceSub, Nat.reduceEqDiff, Nat.reduceLeDiff, Nat.reduceLT, reduceCtorEq, Nat.succ_eq_add_one]) (by simp only [rv, go_sem, reduceIte, Nat.reduceAdd, Nat.reduceMul, Nat.reduceSub, Nat.reduceEqDiff, Nat.reduceLeDiff, Nat.reduceLT, reduceCtorEq, Nat.succ_eq_add_one] <;> simp))
  · have e1 : j = l.length := by simp only [decide_eq_false_iff_not] at h1; omega
    subst e1
    have eE : errL l = 0 := hE0 hk
    rw [eE, if_pos rfl]
    obtain ⟨x, l', rfl⟩ : ∃ x l', l = x :: l' := by
      cases l with
      | nil => exact absurd rfl h0
      | cons x l' => exact ⟨x, l', rfl⟩
    refine goCallE (fn58 x l' (by simp at hl; omega)) rfl rfl (by simp) rfl ?_
    simp only [obsFrom, sh, Int.cast_ofNat_Int, Int.reduceBEq, Int.reduceLT, Int.reduceLE, Int.reduceSub, Int.reduceAdd, Int.reduceNeg, Int.reduceEq, Int.reduceToNat, decide_true, decide_false, decide_eq_true_eq, beq_self_eq_true, bne_self_eq_false, List.reduceReplicate, List.length_set, List.length_replicate, List.length_cons, List.length_nil, List.set_cons_zero, List.set_cons_succ, Int.toNat_natCast, go_sem, reduceIte, Nat.reduceAdd, Nat.reduceMul, Nat.reduceSub, Nat.reduceEqDiff, Nat.reduceLeDiff, Nat.reduceLT, reduceCtorEq, Nat.succ_eq_add_one]
    refine Fin.mk0 _ rfl rfl ?_
    simp only [retOne, rv, rvL, get, if_true, and_self, go_sem, reduceIte, Nat.reduceAdd, Nat.reduceMul, Nat.reduceSub, Nat.reduceEqDiff, Nat.reduceLeDiff, Nat.reduceLT, reduceCtorEq, Nat.succ_eq_add_one]
    exact ⟨by simp, Nat.le_refl _, by rw [List.take_of_length_le (by simp [encI])]⟩
end Go.Eng
