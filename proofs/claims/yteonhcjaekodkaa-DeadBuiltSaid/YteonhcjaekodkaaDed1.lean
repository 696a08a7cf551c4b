/-
  Walks and plain lemmas for DeadBuilt: what the functions named below compute, over the abstract states of the engine.
  No condition beyond those that each theorem states.
-/
import Derived.Test.YteonhcjaekodkaaMsg3
set_option linter.all false
set_option linter.unusedSimpArgs false
set_option maxRecDepth 20000
set_option maxHeartbeats 4000000
namespace Go.Eng
open Go Go.Proofs

theorem w64_add {n a : Nat} (h : a ≤ 100000) (h' : n ≤ 100000) : IntKind.i64.wrap ((a : Int) + (n : Int)) = ((a + n : Nat) : Int) := by rw [w64 (by omega)]; omega
def zeroM : Msg := ⟨0, 0, 0, 0, 0, 0, ⟨#[]⟩⟩

theorem w64_0 : IntKind.i64.wrap 0 = 0 := rfl
attribute [go_sem] w64_0

/-- The end of a function that hands out one row. -/
theorem Fin.mkE1 {res : List SRes} {r : AV} {t : List (Nat × AV)} {h : List (Nat × Ob)} {e : TypeId} {sz : Nat} {xs : List (List AV)} (b : Nat) (vs : List AV) (h1 : retV t h res = some vs) (hb : get h b = some (.row e sz xs))
    (h2 : okS h [(4, b)] [] [(4, .row e sz xs)] = true) (h3 : rv h [(4, b)] [] r (retOne vs)) : Fin res r [] [.row e sz xs] t h := by
  have e : outs [] [.row e sz xs] = [(4, .row e sz xs)] := rfl
  refine ⟨[(4, b)], [], vs, h1, by rw [e]; exact h2, ?_, by simp only [rvN], h3⟩
  rw [e]
  simp only [rvH, get, if_true, hb, and_true, rvO, and_self]

/-- slices.Grow of nil. -/
theorem fn114z : Fn Try.prog 114 [Nl, I 0] [] Nl [] [] := by
  refine Fn.of_go ok114 (by simp) ?_
  unfold s114
  simp only [Int.cast_ofNat_Int, Int.reduceBEq, Int.reduceLT, Int.reduceLE, Int.reduceSub, Int.reduceAdd, Int.reduceNeg, Int.reduceEq, Int.reduceToNat, decide_true, decide_false, decide_eq_true_eq, beq_self_eq_true, bne_self_eq_false, List.reduceReplicate, List.length_set, List.length_replicate, List.length_cons, List.length_nil, List.set_cons_zero, List.set_cons_succ, Int.toNat_natCast, go_sem, reduceIte, Nat.reduceAdd, Nat.reduceMul, Nat.reduceSub, Nat.reduceEqDiff, Nat.reduceLeDiff, Nat.reduceLT, reduceCtorEq, Nat.succ_eq_add_one]
  exact Fin.eq0 _ rfl rfl rfl rfl
theorem fn114 (n : Nat) (h0 : 0 < n) (h1 : n ≤ 100000) : Fn Try.prog 114 [Nl, I n] [] (.own 4 7 0 0) [] [.row 44 7 (encM (List.replicate n zeroM))] := by
  refine Fn.of_go ok114 (by simp) ?_
  unfold s114
  have e1 : decide ((n : Int) < 0) = false := by simp
  have e2 : IntKind.i64.wrap ((n : Int) - 0) = n := by rw [w64 (by omega)]; omega
  have e3 : decide ((0 : Int) < (n : Int)) = true := by simp; omega
  simp only [e1, e2, e3, Int.cast_ofNat_Int, Int.reduceBEq, Int.reduceLT, Int.reduceLE, Int.reduceSub, Int.reduceAdd, Int.reduceNeg, Int.reduceEq, Int.reduceToNat, decide_true, decide_false, decide_eq_true_eq, beq_self_eq_true, bne_self_eq_false, List.reduceReplicate, List.length_set, List.length_replicate, List.length_cons, List.length_nil, List.set_cons_zero, List.set_cons_succ, Int.toNat_natCast, go_sem, reduceIte, Nat.reduceAdd, Nat.reduceMul, Nat.reduceSub, Nat.reduceEqDiff, Nat.reduceLeDiff, Nat.reduceLT, reduceCtorEq, Nat.succ_eq_add_one]
  have e4 : encM (List.replicate n zeroM) = List.replicate n [AV.v (.int .i64 0), .v (.int .i64 0), .v (.int .i64 0), .v (.int .i64 0), .v (.int .i64 0), .v (.int .i64 0), .v (.string ⟨#[]⟩)] := by simp [encM, Msg.enc, zeroM]
  rw [e4]
  exact ⟨⟨by omega, by omega, by omega⟩, by omega, Fin.mkE1 152 _ rfl rfl rfl (by simp only [retOne, rv, get, if_true, and_self])⟩

/-- slices.Concat of two. -/
def catN (xs ys : List Msg) (j : Nat) : Nat := if j = 0 then 0 else if j = 1 then xs.length else xs.length + ys.length
def catL (xs ys : List Msg) (j : Nat) : List Msg := if j = 0 then [] else if j = 1 then xs else xs ++ ys
theorem catL_len (xs ys : List Msg) (j : Nat) : (catL xs ys j).length = catN xs ys j := by
  unfold catL catN
  by_cases h : j = 0
  · simp [h]
  · by_cases h1 : j = 1
    · simp [h1]
    · simp [h, h1]
theorem nneg (n : Nat) : decide ((n : Int) < 0) = false := by simp
attribute [go_sem] nneg
def catS (xs ys : List Msg) (q : {q : Nat × List (List AV) // q.1 ≤ 2 ∧ q.2.take (catN xs ys q.1) = encM (catL xs ys q.1) ∧ catN xs ys q.1 ≤ q.2.length}) : St :=
  ⟨2000, [(6, .own 1500 7 0 (catN xs ys q.1.1)), (25, .sl 1 [[slM xs], [slM ys]]), (26, I 2), (27, I q.1.1)], [(1500, .row 44 7 q.1.2)]⟩
theorem fn72 (xs ys : List Msg) (h1 : xs.length ≤ 10000) (h2 : ys.length ≤ 10000) : Fn Try.prog 72 [.sl 1 [[slM xs], [slM ys]]] [] (slM (xs ++ ys)) [] [] := by
  refine Fn.of_go ok72 (by simp) ?_
  unfold s72
  simp only [Int.cast_ofNat_Int, Int.reduceBEq, Int.reduceLT, Int.reduceLE, Int.reduceSub, Int.reduceAdd, Int.reduceNeg, Int.reduceEq, Int.reduceToNat, decide_true, decide_false, decide_eq_true_eq, beq_self_eq_true, bne_self_eq_false, List.reduceReplicate, List.length_set, List.length_replicate, List.length_cons, List.length_nil, List.set_cons_zero, List.set_cons_succ, Int.toNat_natCast, go_sem, reduceIte, Nat.reduceAdd, Nat.reduceMul, Nat.reduceSub, Nat.reduceEqDiff, Nat.reduceLeDiff, Nat.reduceLT, reduceCtorEq, Nat.succ_eq_add_one]
  refine go_loop (fun j : {j : Nat // j ≤ 2} => ⟨1000, [(0, .sl 1 [[slM xs], [slM ys]]), (3, I (catN xs ys j.1)), (9, .sl 1 [[slM xs], [slM ys]]), (10, I 2), (11, I j.1)], []⟩) (fun j => 2 - j.1) ⟨0, by omega⟩
    (Wk.mk [] [] rfl rfl (by simp only [go_sem, reduceIte, Nat.reduceAdd, Nat.reduceMul, Nat.reduceSub, Nat.reduceEqDiff, Nat.reduceLeDiff, Nat.reduceLT, reduceCtorEq, Nat.succ_eq_add_one]) (by simp only [go_sem, reduceIte, Nat.reduceAdd, Nat.reduceMul, Nat.reduceSub, Nat.reduceEqDiff, Nat.reduceLeDiff, Nat.reduceLT, reduceCtorEq, Nat.succ_eq_add_one]) (by simp only [rv, catN, Int.cast_ofNat_Int, Int.reduceBEq, Int.reduceLT, Int.reduceLE, Int.reduceSub, Int.reduceAdd, Int.reduceNeg, Int.reduceEq, Int.reduceToNat, decide_true, decide_false, decide_eq_true_eq, beq_self_eq_true, bne_self_eq_false, List.reduceReplicate, List.length_set, List.length_replicate, List.length_cons, List.length_nil, List.set_cons_zero, List.set_cons_succ, Int.toNat_natCast, go_sem, reduceIte, Nat.reduceAdd, Nat.reduceMul, Nat.reduceSub, Nat.reduceEqDiff, Nat.reduceLeDiff, Nat.reduceLT, reduceCtorEq, Nat.succ_eq_add_one]; try simp)) ?_
  intro j B hB
  simp only [go_sem, reduceIte, Nat.reduceAdd, Nat.reduceMul, Nat.reduceSub, Nat.reduceEqDiff, Nat.reduceLeDiff, Nat.reduceLT, reduceCtorEq, Nat.succ_eq_add_one]
  refine goIf_split (fun h3 => ?_) (fun h3 => ?_) <;> simp only [h3, go_sem, reduceIte, Nat.reduceAdd, Nat.reduceMul, Nat.reduceSub, Nat.reduceEqDiff, Nat.reduceLeDiff, Nat.reduceLT, reduceCtorEq, Nat.succ_eq_add_one]
  · have e1 : j.1 < 2 := by simp only [decide_eq_true_eq] at h3; omega
    obtain ⟨zs, e2, e3, e4⟩ : ∃ zs : List Msg, nth [[slM xs], [slM ys]] j.1 = [slM zs] ∧ (catN xs ys j.1 + zs.length = catN xs ys (j.1 + 1)) ∧ catN xs ys (j.1 + 1) ≤ 20000 := by
      rcases (show j.1 = 0 ∨ j.1 = 1 by omega) with e | e <;> rw [e]
      · exact ⟨xs, rfl, by simp [catN], by simp [catN]; omega⟩
      · exact ⟨ys, rfl, by simp [catN], by simp [catN]; omega⟩
    simp only [Int.toNat_natCast, e2, encM_len, w64_add (show catN xs ys j.1 ≤ 100000 by omega) (show zs.length ≤ 100000 by omega), e3, w64_succ (show j.1 ≤ 100000 by omega), Int.cast_ofNat_Int, Int.reduceBEq, Int.reduceLT, Int.reduceLE, Int.reduceSub, Int.reduceAdd, Int.reduceNeg, Int.reduceEq, Int.reduceToNat, decide_true, decide_false, decide_eq_true_eq, beq_self_eq_true, bne_self_eq_false, List.reduceReplicate, List.length_set, List.length_replicate, List.length_cons, List.length_nil, List.set_cons_zero, List.set_cons_succ, Int.toNat_natCast, go_sem, reduceIte, Nat.reduceAdd, Nat.reduceMul, Nat.reduceSub, Nat.reduceEqDiff, Nat.reduceLeDiff, Nat.reduceLT, reduceCtorEq, Nat.succ_eq_add_one]
    refine ⟨⟨by omega, by omega⟩, ?_⟩
    exact hB _ ⟨j.1 + 1, e1⟩ (by simp only; omega) (Wk.mk [] [] rfl rfl (by simp only [go_sem, reduceIte, Nat.reduceAdd, Nat.reduceMul, Nat.reduceSub, Nat.reduceEqDiff, Nat.reduceLeDiff, Nat.reduceLT, reduceCtorEq, Nat.succ_eq_add_one]) (by simp only [go_sem, reduceIte, Nat.reduceAdd, Nat.reduceMul, Nat.reduceSub, Nat.reduceEqDiff, Nat.reduceLeDiff, Nat.reduceLT, reduceCtorEq, Nat.succ_eq_add_one]) (by simp only [rv, go_sem, reduceIte, Nat.reduceAdd, Nat.reduceMul, Nat.reduceSub, Nat.reduceEqDiff, Nat.reduceLeDiff, Nat.reduceLT, reduceCtorEq, Nat.succ_eq_add_one]))
  · have e1 : j.1 = 2 := by have := j.2; simp only [decide_eq_false_iff_not] at h3; omega
    have e2 : catN xs ys 2 = xs.length + ys.length := rfl
    simp only [e1, go_sem, reduceIte, Nat.reduceAdd, Nat.reduceMul, Nat.reduceSub, Nat.reduceEqDiff, Nat.reduceLeDiff, Nat.reduceLT, reduceCtorEq, Nat.succ_eq_add_one]
    by_cases hz : xs.length + ys.length = 0
    · simp only [e2, hz, Int.cast_ofNat_Int, Int.reduceBEq, Int.reduceLT, Int.reduceLE, Int.reduceSub, Int.reduceAdd, Int.reduceNeg, Int.reduceEq, Int.reduceToNat, decide_true, decide_false, decide_eq_true_eq, beq_self_eq_true, bne_self_eq_false, List.reduceReplicate, List.length_set, List.length_replicate, List.length_cons, List.length_nil, List.set_cons_zero, List.set_cons_succ, Int.toNat_natCast, go_sem, reduceIte, Nat.reduceAdd, Nat.reduceMul, Nat.reduceSub, Nat.reduceEqDiff, Nat.reduceLeDiff, Nat.reduceLT, reduceCtorEq, Nat.succ_eq_add_one]
      refine goCall0 fn114z rfl rfl ?_
      simp only [Int.cast_ofNat_Int, Int.reduceBEq, Int.reduceLT, Int.reduceLE, Int.reduceSub, Int.reduceAdd, Int.reduceNeg, Int.reduceEq, Int.reduceToNat, decide_true, decide_false, decide_eq_true_eq, beq_self_eq_true, bne_self_eq_false, List.reduceReplicate, List.length_set, List.length_replicate, List.length_cons, List.length_nil, List.set_cons_zero, List.set_cons_succ, Int.toNat_natCast, go_sem, reduceIte, Nat.reduceAdd, Nat.reduceMul, Nat.reduceSub, Nat.reduceEqDiff, Nat.reduceLeDiff, Nat.reduceLT, reduceCtorEq, Nat.succ_eq_add_one]
      refine go_loop (catS xs ys) (fun q => 2 - q.1.1) ⟨(0, []), by omega, rfl, by simp [catN]⟩ (Wk.mk [] [1500] rfl rfl (by simp only [catS, go_sem, reduceIte, Nat.reduceAdd, Nat.reduceMul, Nat.reduceSub, Nat.reduceEqDiff, Nat.reduceLeDiff, Nat.reduceLT, reduceCtorEq, Nat.succ_eq_add_one]) (by simp only [catS, rvN, go_sem, reduceIte, Nat.reduceAdd, Nat.reduceMul, Nat.reduceSub, Nat.reduceEqDiff, Nat.reduceLeDiff, Nat.reduceLT, reduceCtorEq, Nat.succ_eq_add_one]) (by simp only [catS, rv, catN, Int.cast_ofNat_Int, Int.reduceBEq, Int.reduceLT, Int.reduceLE, Int.reduceSub, Int.reduceAdd, Int.reduceNeg, Int.reduceEq, Int.reduceToNat, decide_true, decide_false, decide_eq_true_eq, beq_self_eq_true, bne_self_eq_false, List.reduceReplicate, List.length_set, List.length_replicate, List.length_cons, List.length_nil, List.set_cons_zero, List.set_cons_succ, Int.toNat_natCast, go_sem, reduceIte, Nat.reduceAdd, Nat.reduceMul, Nat.reduceSub, Nat.reduceEqDiff, Nat.reduceLeDiff, Nat.reduceLT, reduceCtorEq, Nat.succ_eq_add_one]; try simp)) ?_
      intro q B hB
      obtain ⟨⟨k, rows⟩, hk2, hr1, hr2⟩ := q
      unfold catS
      simp only [go_sem, reduceIte, Nat.reduceAdd, Nat.reduceMul, Nat.reduceSub, Nat.reduceEqDiff, Nat.reduceLeDiff, Nat.reduceLT, reduceCtorEq, Nat.succ_eq_add_one]
      refine goIf_split (fun h4 => ?_) (fun h4 => ?_) <;> simp only [h4, go_sem, reduceIte, Nat.reduceAdd, Nat.reduceMul, Nat.reduceSub, Nat.reduceEqDiff, Nat.reduceLeDiff, Nat.reduceLT, reduceCtorEq, Nat.succ_eq_add_one]
      · have e5 : k < 2 := by simp only [decide_eq_true_eq] at h4; omega
        obtain ⟨zs, e6, e7, e8, e9⟩ : ∃ zs : List Msg, nth [[slM xs], [slM ys]] k = [slM zs] ∧ (catN xs ys k + zs.length = catN xs ys (k + 1)) ∧ catN xs ys (k + 1) ≤ 20000 ∧ catL xs ys (k + 1) = catL xs ys k ++ zs := by
          rcases (show k = 0 ∨ k = 1 by omega) with e | e <;> subst e
          · exact ⟨xs, rfl, by simp [catN], by simp [catN]; omega, by simp [catL]⟩
          · exact ⟨ys, rfl, by simp [catN], by simp [catN]; omega, by simp [catL]⟩
        simp only [Int.toNat_natCast, e6, w64_succ (show k ≤ 100000 by omega), Int.cast_ofNat_Int, Int.reduceBEq, Int.reduceLT, Int.reduceLE, Int.reduceSub, Int.reduceAdd, Int.reduceNeg, Int.reduceEq, Int.reduceToNat, decide_true, decide_false, decide_eq_true_eq, beq_self_eq_true, bne_self_eq_false, List.reduceReplicate, List.length_set, List.length_replicate, List.length_cons, List.length_nil, List.set_cons_zero, List.set_cons_succ, Int.toNat_natCast, go_sem, reduceIte, Nat.reduceAdd, Nat.reduceMul, Nat.reduceSub, Nat.reduceEqDiff, Nat.reduceLeDiff, Nat.reduceLT, reduceCtorEq, Nat.succ_eq_add_one]
        simp only at hr1 hr2
        have hm : catN xs ys k + zs.length ≤ maxLen := Nat.le_trans (show catN xs ys k + zs.length ≤ 20000 by omega) (by decide)
        refine ⟨⟨by omega, by omega⟩, ⟨by omega, hm, by omega⟩, ?_⟩
        exact hB _ ⟨(k + 1, encM (catL xs ys (k + 1))), by simp only; omega, by rw [← catL_len, ← encM_len, List.take_length], by simp only [encM_len, catL_len]; exact Nat.le_refl _⟩ (by simp only; omega)
          (Wk.mk [(1500, 2048)] [] rfl rfl (by simp only [catS, rvH, rvO, List.drop_zero, hr1, e9, encM_app, go_sem, reduceIte, Nat.reduceAdd, Nat.reduceMul, Nat.reduceSub, Nat.reduceEqDiff, Nat.reduceLeDiff, Nat.reduceLT, reduceCtorEq, Nat.succ_eq_add_one]) (by simp only [go_sem, reduceIte, Nat.reduceAdd, Nat.reduceMul, Nat.reduceSub, Nat.reduceEqDiff, Nat.reduceLeDiff, Nat.reduceLT, reduceCtorEq, Nat.succ_eq_add_one]) (by simp only [catS, rv, e7, go_sem, reduceIte, Nat.reduceAdd, Nat.reduceMul, Nat.reduceSub, Nat.reduceEqDiff, Nat.reduceLeDiff, Nat.reduceLT, reduceCtorEq, Nat.succ_eq_add_one]))
      · have e5 : k = 2 := by simp only [decide_eq_false_iff_not] at h4; simp only at hk2; omega
        subst e5
        simp only at hr1 hr2
        refine Fin.mk0 _ rfl rfl ?_
        have e10 : catL xs ys 2 = xs ++ ys := rfl
        simp only [retOne, rv, List.drop_zero, hr1, e10, List.not_mem_nil, not_false_eq_true, true_and, List.map_nil, go_sem, reduceIte, Nat.reduceAdd, Nat.reduceMul, Nat.reduceSub, Nat.reduceEqDiff, Nat.reduceLeDiff, Nat.reduceLT, reduceCtorEq, Nat.succ_eq_add_one]
        omega
    · have hp : 0 < catN xs ys 2 := by rw [e2]; omega
      refine goCallE (fn114 (catN xs ys 2) hp (by rw [e2]; omega)) rfl rfl (by simp) rfl ?_
      simp only [obsFrom, sh, Int.cast_ofNat_Int, Int.reduceBEq, Int.reduceLT, Int.reduceLE, Int.reduceSub, Int.reduceAdd, Int.reduceNeg, Int.reduceEq, Int.reduceToNat, decide_true, decide_false, decide_eq_true_eq, beq_self_eq_true, bne_self_eq_false, List.reduceReplicate, List.length_set, List.length_replicate, List.length_cons, List.length_nil, List.set_cons_zero, List.set_cons_succ, Int.toNat_natCast, go_sem, reduceIte, Nat.reduceAdd, Nat.reduceMul, Nat.reduceSub, Nat.reduceEqDiff, Nat.reduceLeDiff, Nat.reduceLT, reduceCtorEq, Nat.succ_eq_add_one]

      refine go_loop (catS xs ys) (fun q => 2 - q.1.1) ⟨(0, encM (List.replicate (catN xs ys 2) zeroM)), by omega, rfl, by simp [catN]⟩ (Wk.mk [(1500, 1016)] [] rfl rfl (by simp only [catS, rvH, rvO, go_sem, reduceIte, Nat.reduceAdd, Nat.reduceMul, Nat.reduceSub, Nat.reduceEqDiff, Nat.reduceLeDiff, Nat.reduceLT, reduceCtorEq, Nat.succ_eq_add_one]) (by simp only [catS, rvN, go_sem, reduceIte, Nat.reduceAdd, Nat.reduceMul, Nat.reduceSub, Nat.reduceEqDiff, Nat.reduceLeDiff, Nat.reduceLT, reduceCtorEq, Nat.succ_eq_add_one]) (by simp only [catS, rv, catN, Int.cast_ofNat_Int, Int.reduceBEq, Int.reduceLT, Int.reduceLE, Int.reduceSub, Int.reduceAdd, Int.reduceNeg, Int.reduceEq, Int.reduceToNat, decide_true, decide_false, decide_eq_true_eq, beq_self_eq_true, bne_self_eq_false, List.reduceReplicate, List.length_set, List.length_replicate, List.length_cons, List.length_nil, List.set_cons_zero, List.set_cons_succ, Int.toNat_natCast, go_sem, reduceIte, Nat.reduceAdd, Nat.reduceMul, Nat.reduceSub, Nat.reduceEqDiff, Nat.reduceLeDiff, Nat.reduceLT, reduceCtorEq, Nat.succ_eq_add_one]; try simp)) ?_
      intro q B hB
      obtain ⟨⟨k, rows⟩, hk2, hr1, hr2⟩ := q
      unfold catS
      simp only [go_sem, reduceIte, Nat.reduceAdd, Nat.reduceMul, Nat.reduceSub, Nat.reduceEqDiff, Nat.reduceLeDiff, Nat.reduceLT, reduceCtorEq, Nat.succ_eq_add_one]
      refine goIf_split (fun h4 => ?_) (fun h4 => ?_) <;> simp only [h4, go_sem, reduceIte, Nat.reduceAdd, Nat.reduceMul, Nat.reduceSub, Nat.reduceEqDiff, Nat.reduceLeDiff, Nat.reduceLT, reduceCtorEq, Nat.succ_eq_add_one]
      · have e5 : k < 2 := by simp only [decide_eq_true_eq] at h4; omega
        obtain ⟨zs, e6, e7, e8, e9⟩ : ∃ zs : List Msg, nth [[slM xs], [slM ys]] k = [slM zs] ∧ (catN xs ys k + zs.length = catN xs ys (k + 1)) ∧ catN xs ys (k + 1) ≤ 20000 ∧ catL xs ys (k + 1) = catL xs ys k ++ zs := by
          rcases (show k = 0 ∨ k = 1 by omega) with e | e <;> subst e
          · exact ⟨xs, rfl, by simp [catN], by simp [catN]; omega, by simp [catL]⟩
          · exact ⟨ys, rfl, by simp [catN], by simp [catN]; omega, by simp [catL]⟩
        simp only [Int.toNat_natCast, e6, w64_succ (show k ≤ 100000 by omega), Int.cast_ofNat_Int, Int.reduceBEq, Int.reduceLT, Int.reduceLE, Int.reduceSub, Int.reduceAdd, Int.reduceNeg, Int.reduceEq, Int.reduceToNat, decide_true, decide_false, decide_eq_true_eq, beq_self_eq_true, bne_self_eq_false, List.reduceReplicate, List.length_set, List.length_replicate, List.length_cons, List.length_nil, List.set_cons_zero, List.set_cons_succ, Int.toNat_natCast, go_sem, reduceIte, Nat.reduceAdd, Nat.reduceMul, Nat.reduceSub, Nat.reduceEqDiff, Nat.reduceLeDiff, Nat.reduceLT, reduceCtorEq, Nat.succ_eq_add_one]
        simp only at hr1 hr2
        have hm : catN xs ys k + zs.length ≤ maxLen := Nat.le_trans (show catN xs ys k + zs.length ≤ 20000 by omega) (by decide)
        refine ⟨⟨by omega, by omega⟩, ⟨by omega, hm, by omega⟩, ?_⟩
        exact hB _ ⟨(k + 1, encM (catL xs ys (k + 1))), by simp only; omega, by rw [← catL_len, ← encM_len, List.take_length], by simp only [encM_len, catL_len]; exact Nat.le_refl _⟩ (by simp only; omega)
          (Wk.mk [(1500, 2048)] [] rfl rfl (by simp only [catS, rvH, rvO, List.drop_zero, hr1, e9, encM_app, go_sem, reduceIte, Nat.reduceAdd, Nat.reduceMul, Nat.reduceSub, Nat.reduceEqDiff, Nat.reduceLeDiff, Nat.reduceLT, reduceCtorEq, Nat.succ_eq_add_one]) (by simp only [go_sem, reduceIte, Nat.reduceAdd, Nat.reduceMul, Nat.reduceSub, Nat.reduceEqDiff, Nat.reduceLeDiff, Nat.reduceLT, reduceCtorEq, Nat.succ_eq_add_one]) (by simp only [catS, rv, e7, go_sem, reduceIte, Nat.reduceAdd, Nat.reduceMul, Nat.reduceSub, Nat.reduceEqDiff, Nat.reduceLeDiff, Nat.reduceLT, reduceCtorEq, Nat.succ_eq_add_one]))
      · have e5 : k = 2 := by simp only [decide_eq_false_iff_not] at h4; simp only at hk2; omega
        subst e5
        simp only at hr1 hr2
        refine Fin.mk0 _ rfl rfl ?_
        have e10 : catL xs ys 2 = xs ++ ys := rfl
        simp only [retOne, rv, List.drop_zero, hr1, e10, List.not_mem_nil, not_false_eq_true, true_and, List.map_nil, go_sem, reduceIte, Nat.reduceAdd, Nat.reduceMul, Nat.reduceSub, Nat.reduceEqDiff, Nat.reduceLeDiff, Nat.reduceLT, reduceCtorEq, Nat.succ_eq_add_one]
        omega
end Go.Eng
