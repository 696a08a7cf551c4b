/-
  Walks and plain lemmas for DeadBuilt: what the functions named below compute, over the abstract states of the engine.
  No condition beyond those that each theorem states.
-/
import Derived.Test.YteonhcjaekodkaaDed1
set_option linter.all false
set_option linter.unusedSimpArgs false
set_option maxRecDepth 20000
set_option maxHeartbeats 4000000
namespace Go.Eng
open Go Go.Proofs

def dputA (c : Int) (ms ls : List Msg) : AV :=
  if deadV c ms ≠ 0 then .tup [deadA 0 [], I (deadV c ms)] else if c - ms.length < ls.length then .tup [deadA 0 [], I 3] else if invL ls ≠ 0 then .tup [deadA 0 [], I (invL ls)]
  else if dup (ms ++ ls) = true then .tup [deadA 0 [], I 10] else .tup [deadA c (ms ++ ls), I 0]
theorem kills_nil : kills [] = [] := rfl
theorem kills_cons (b : Nat) (Z : List Nat) : kills (b :: Z) = (b, Ob.dead) :: kills Z := rfl
attribute [go_sem] kills_nil kills_cons
theorem encM_one (m : Msg) : encM [m] = [m.enc] := rfl
theorem encM_nil : encM [] = [] := rfl
theorem nilA (c : Int) : deadA c [] = .agg [I c, .sl 7 []] := rfl

theorem fn31 (c : Int) (ms ls : List Msg) (hl : ms.length ≤ 10000) (hl' : ls.length ≤ 10000) : Fn Try.prog 31 [deadA c ms, slM ls] [] (dputA c ms ls) [] [] := by
  refine Fn.of_go ok31 (by simp) ?_
  unfold s31 dputA
  simp only [go_sem, reduceIte, Nat.reduceAdd, Nat.reduceMul, Nat.reduceSub, Nat.reduceEqDiff, Nat.reduceLeDiff, Nat.reduceLT, reduceCtorEq, Nat.succ_eq_add_one]
  refine goCall0 (fn70 c ms (by omega)) rfl rfl ?_
  simp only [go_sem, reduceIte, Nat.reduceAdd, Nat.reduceMul, Nat.reduceSub, Nat.reduceEqDiff, Nat.reduceLeDiff, Nat.reduceLT, reduceCtorEq, Nat.succ_eq_add_one]
  refine goIf_split (fun h1 => ?_) (fun h1 => ?_) <;> simp only [h1, go_sem, reduceIte, Nat.reduceAdd, Nat.reduceMul, Nat.reduceSub, Nat.reduceEqDiff, Nat.reduceLeDiff, Nat.reduceLT, reduceCtorEq, Nat.succ_eq_add_one]
  · have e : deadV c ms ≠ 0 := by simpa using h1
    rw [if_pos e]
    exact Fin.mk0 _ rfl rfl (by simp only [retOne, rv, rvL, encM, List.map_nil, go_sem, reduceIte, Nat.reduceAdd, Nat.reduceMul, Nat.reduceSub, Nat.reduceEqDiff, Nat.reduceLeDiff, Nat.reduceLT, reduceCtorEq, Nat.succ_eq_add_one])
  have e : deadV c ms = 0 := by simpa using h1
  have e0 := deadV_zero e
  rw [if_neg (show ¬ deadV c ms ≠ 0 from fun h => h e)]
  simp only [w64 (n := c - ms.length) (by omega), go_sem, reduceIte, Nat.reduceAdd, Nat.reduceMul, Nat.reduceSub, Nat.reduceEqDiff, Nat.reduceLeDiff, Nat.reduceLT, reduceCtorEq, Nat.succ_eq_add_one]
  refine goIf_split (fun h2 => ?_) (fun h2 => ?_) <;> simp only [h2, go_sem, reduceIte, Nat.reduceAdd, Nat.reduceMul, Nat.reduceSub, Nat.reduceEqDiff, Nat.reduceLeDiff, Nat.reduceLT, reduceCtorEq, Nat.succ_eq_add_one]
  · have e2 : c - ms.length < ls.length := by simpa using h2
    rw [if_pos e2]
    exact Fin.mk0 _ rfl rfl (by simp only [retOne, rv, rvL, encM, List.map_nil, go_sem, reduceIte, Nat.reduceAdd, Nat.reduceMul, Nat.reduceSub, Nat.reduceEqDiff, Nat.reduceLeDiff, Nat.reduceLT, reduceCtorEq, Nat.succ_eq_add_one])
  have e2 : ¬ c - ms.length < ls.length := by simpa using h2
  rw [if_neg e2]
  refine goCall0 (fn71 ls (by omega)) rfl rfl ?_
  simp only [go_sem, reduceIte, Nat.reduceAdd, Nat.reduceMul, Nat.reduceSub, Nat.reduceEqDiff, Nat.reduceLeDiff, Nat.reduceLT, reduceCtorEq, Nat.succ_eq_add_one]
  refine goIf_split (fun h3 => ?_) (fun h3 => ?_) <;> simp only [h3, go_sem, reduceIte, Nat.reduceAdd, Nat.reduceMul, Nat.reduceSub, Nat.reduceEqDiff, Nat.reduceLeDiff, Nat.reduceLT, reduceCtorEq, Nat.succ_eq_add_one]
  · have e3 : invL ls ≠ 0 := by simpa using h3
    rw [if_pos e3]
    exact Fin.mk0 _ rfl rfl (by simp only [retOne, rv, rvL, encM, List.map_nil, go_sem, reduceIte, Nat.reduceAdd, Nat.reduceMul, Nat.reduceSub, Nat.reduceEqDiff, Nat.reduceLeDiff, Nat.reduceLT, reduceCtorEq, Nat.succ_eq_add_one])
  have e3 : invL ls = 0 := by simpa using h3
  rw [if_neg (show ¬ invL ls ≠ 0 from fun h => h e3)]
  simp only [Int.cast_ofNat_Int, Int.reduceBEq, Int.reduceLT, Int.reduceLE, Int.reduceSub, Int.reduceAdd, Int.reduceNeg, Int.reduceEq, Int.reduceToNat, decide_true, decide_false, decide_eq_true_eq, beq_self_eq_true, bne_self_eq_false, List.reduceReplicate, List.length_set, List.length_replicate, List.length_cons, List.length_nil, List.set_cons_zero, List.set_cons_succ, Int.toNat_natCast, go_sem, reduceIte, Nat.reduceAdd, Nat.reduceMul, Nat.reduceSub, Nat.reduceEqDiff, Nat.reduceLeDiff, Nat.reduceLT, reduceCtorEq, Nat.succ_eq_add_one]
  refine goCall_fz [208] [.sl 1 [[slM ms], [slM ls]]] (by simp [get]) (by simp [rvL, rv, stay, get]) ?_
  refine goCall0 (fn72 ms ls hl hl') rfl rfl ?_
  simp only [go_sem, reduceIte, Nat.reduceAdd, Nat.reduceMul, Nat.reduceSub, Nat.reduceEqDiff, Nat.reduceLeDiff, Nat.reduceLT, reduceCtorEq, Nat.succ_eq_add_one]
  refine goCall0 (fn73 (ms ++ ls) (by simp only [List.length_append]; omega)) rfl rfl ?_
  simp only [go_sem, reduceIte, Nat.reduceAdd, Nat.reduceMul, Nat.reduceSub, Nat.reduceEqDiff, Nat.reduceLeDiff, Nat.reduceLT, reduceCtorEq, Nat.succ_eq_add_one]
  refine goIf_split (fun h4 => ?_) (fun h4 => ?_) <;> simp only [h4, go_sem, reduceIte, Nat.reduceAdd, Nat.reduceMul, Nat.reduceSub, Nat.reduceEqDiff, Nat.reduceLeDiff, Nat.reduceLT, reduceCtorEq, Nat.succ_eq_add_one]
  · exact Fin.mk0 _ rfl rfl (by simp only [retOne, rv, rvL, encM, List.map_nil, go_sem, reduceIte, Nat.reduceAdd, Nat.reduceMul, Nat.reduceSub, Nat.reduceEqDiff, Nat.reduceLeDiff, Nat.reduceLT, reduceCtorEq, Nat.succ_eq_add_one])
  · exact Fin.mk0 _ rfl rfl (by simp only [retOne, rv, rvL, go_sem, reduceIte, Nat.reduceAdd, Nat.reduceMul, Nat.reduceSub, Nat.reduceEqDiff, Nat.reduceLeDiff, Nat.reduceLT, reduceCtorEq, Nat.succ_eq_add_one])

/-- What Take takes, and what it leaves, so far. -/
def tkS (k ep : Int) (q : List Msg × List Msg) (m : Msg) : List Msg × List Msg :=
  if (q.1.length : Int) < k then (if m.epoch < ep then (q.1, q.2 ++ [m]) else (q.1 ++ [m], q.2)) else (q.1, q.2 ++ [m])
def tk (k ep : Int) (ms : List Msg) : List Msg × List Msg := ms.foldl (tkS k ep) ([], [])
theorem tk_step (k ep : Int) {ms : List Msg} {j : Nat} (h : j < ms.length) : tk k ep (ms.take (j + 1)) = tkS k ep (tk k ep (ms.take j)) ms[j] := by
  unfold tk
  rw [List.take_succ_eq_append_getElem h, List.foldl_append]
  rfl
theorem tk_len (k ep : Int) (ms : List Msg) : (tk k ep ms).1.length + (tk k ep ms).2.length = ms.length := by
  have key : ∀ (ms : List Msg) (q : List Msg × List Msg), (ms.foldl (tkS k ep) q).1.length + (ms.foldl (tkS k ep) q).2.length = q.1.length + q.2.length + ms.length := by
    intro ms
    induction ms with
    | nil => intro q; simp
    | cons m ms ih =>
      intro q
      rw [List.foldl_cons, ih]
      unfold tkS
      repeat' split
      all_goals simp
      all_goals omega
  have := key ms ([], [])
  unfold tk
  simpa using this
def takeA (c : Int) (ms : List Msg) (k ep : Int) : AV :=
  if validV c ms ep ≠ 0 then .tup [deadA 0 [], slM [], I (validV c ms ep)] else if k < 0 then .tup [deadA 0 [], slM [], I 1] else .tup [deadA c (tk k ep ms).2, slM (tk k ep ms).1, I 0]

def tkSt (c : Int) (ms : List Msg) (k ep : Int) (j : {j : Nat // j ≤ ms.length}) : St :=
  ⟨2000, [(1, I k), (2, I ep), (6, .ptr 16 0), (10, .ptr 128 0), (11, .own 1508 7 0 (tk k ep (ms.take j.1)).1.length), (28, slM ms), (29, I ms.length), (30, I j.1)],
    [(16, .box [I 0, Nl]), (128, .box [I c, .own 1500 7 0 (tk k ep (ms.take j.1)).2.length]), (1500, .row 44 7 (encM (tk k ep (ms.take j.1)).2)), (1508, .row 44 7 (encM (tk k ep (ms.take j.1)).1))]⟩
theorem fn32 (c : Int) (ms : List Msg) (k ep : Int) (hl : ms.length ≤ 10000) : Fn Try.prog 32 [deadA c ms, I k, I ep] [] (takeA c ms k ep) [] [] := by
  refine Fn.of_go ok32 (by simp) ?_
  unfold s32 takeA
  simp only [go_sem, reduceIte, Nat.reduceAdd, Nat.reduceMul, Nat.reduceSub, Nat.reduceEqDiff, Nat.reduceLeDiff, Nat.reduceLT, reduceCtorEq, Nat.succ_eq_add_one]
  refine goCall0 (fn74 c ms ep (by omega)) rfl rfl ?_
  simp only [go_sem, reduceIte, Nat.reduceAdd, Nat.reduceMul, Nat.reduceSub, Nat.reduceEqDiff, Nat.reduceLeDiff, Nat.reduceLT, reduceCtorEq, Nat.succ_eq_add_one]
  refine goIf_split (fun h1 => ?_) (fun h1 => ?_) <;> simp only [h1, go_sem, reduceIte, Nat.reduceAdd, Nat.reduceMul, Nat.reduceSub, Nat.reduceEqDiff, Nat.reduceLeDiff, Nat.reduceLT, reduceCtorEq, Nat.succ_eq_add_one]
  · have e : validV c ms ep ≠ 0 := by simpa using h1
    rw [if_pos e]
    exact Fin.mk0 _ rfl rfl (by simp only [retOne, rv, rvL, encM, List.map_nil, go_sem, reduceIte, Nat.reduceAdd, Nat.reduceMul, Nat.reduceSub, Nat.reduceEqDiff, Nat.reduceLeDiff, Nat.reduceLT, reduceCtorEq, Nat.succ_eq_add_one])
  have e : validV c ms ep = 0 := by simpa using h1
  rw [if_neg (show ¬ validV c ms ep ≠ 0 from fun h => h e)]
  refine goIf_split (fun h2 => ?_) (fun h2 => ?_) <;> simp only [h2, go_sem, reduceIte, Nat.reduceAdd, Nat.reduceMul, Nat.reduceSub, Nat.reduceEqDiff, Nat.reduceLeDiff, Nat.reduceLT, reduceCtorEq, Nat.succ_eq_add_one]
  · have e2 : k < 0 := by simpa using h2
    rw [if_pos e2]
    exact Fin.mk0 _ rfl rfl (by simp only [retOne, rv, rvL, encM, List.map_nil, go_sem, reduceIte, Nat.reduceAdd, Nat.reduceMul, Nat.reduceSub, Nat.reduceEqDiff, Nat.reduceLeDiff, Nat.reduceLT, reduceCtorEq, Nat.succ_eq_add_one])
  have e2 : ¬ k < 0 := by simpa using h2
  rw [if_neg e2]
  refine go_loop (tkSt c ms k ep) (fun j => ms.length - j.1) ⟨0, by omega⟩ (Wk.mk [(16, 16), (128, 128)] [1500, 1508] rfl rfl
    (by simp only [tkSt, rvH, rvO, rvL, rv, tk, List.take_zero, List.foldl_nil, List.length_nil, go_sem, reduceIte, Nat.reduceAdd, Nat.reduceMul, Nat.reduceSub, Nat.reduceEqDiff, Nat.reduceLeDiff, Nat.reduceLT, reduceCtorEq, Nat.succ_eq_add_one]; simp) (by simp only [tkSt, rvN, tk, encM, List.take_zero, List.foldl_nil, List.map_nil, go_sem, reduceIte, Nat.reduceAdd, Nat.reduceMul, Nat.reduceSub, Nat.reduceEqDiff, Nat.reduceLeDiff, Nat.reduceLT, reduceCtorEq, Nat.succ_eq_add_one]) (by simp only [tkSt, rv, tk, List.take_zero, List.foldl_nil, List.length_nil, Int.cast_ofNat_Int, Int.reduceBEq, Int.reduceLT, Int.reduceLE, Int.reduceSub, Int.reduceAdd, Int.reduceNeg, Int.reduceEq, Int.reduceToNat, decide_true, decide_false, decide_eq_true_eq, beq_self_eq_true, bne_self_eq_false, List.reduceReplicate, List.length_set, List.length_replicate, List.length_cons, List.length_nil, List.set_cons_zero, List.set_cons_succ, Int.toNat_natCast, go_sem, reduceIte, Nat.reduceAdd, Nat.reduceMul, Nat.reduceSub, Nat.reduceEqDiff, Nat.reduceLeDiff, Nat.reduceLT, reduceCtorEq, Nat.succ_eq_add_one]; simp)) ?_
  intro j B hB
  unfold tkSt
  simp only [go_sem, reduceIte, Nat.reduceAdd, Nat.reduceMul, Nat.reduceSub, Nat.reduceEqDiff, Nat.reduceLeDiff, Nat.reduceLT, reduceCtorEq, Nat.succ_eq_add_one]
  refine goIf_split (fun h3 => ?_) (fun h3 => ?_) <;> simp only [h3, go_sem, reduceIte, Nat.reduceAdd, Nat.reduceMul, Nat.reduceSub, Nat.reduceEqDiff, Nat.reduceLeDiff, Nat.reduceLT, reduceCtorEq, Nat.succ_eq_add_one]
  · have e1 : j.1 < ms.length := by simp only [decide_eq_true_eq] at h3; omega
    have e3 := tk_step k ep e1
    have e4 := tk_len k ep (ms.take j.1)
    have e5 : (ms.take j.1).length ≤ 10000 := by simp only [List.length_take]; omega
    simp only [Int.toNat_natCast, encM_nth e1, go_sem, reduceIte, Nat.reduceAdd, Nat.reduceMul, Nat.reduceSub, Nat.reduceEqDiff, Nat.reduceLeDiff, Nat.reduceLT, reduceCtorEq, Nat.succ_eq_add_one]
    have hq : 0 ≤ (j.1 : Int) ∧ (j.1 : Int) < (ms.length : Int) := ⟨by omega, by omega⟩
    refine ⟨hq, ?_⟩
    have m1 : (tk k ep (ms.take j.1)).1.length + 1 ≤ maxLen := Nat.le_trans (show _ ≤ 20000 by omega) (by decide)
    have m2 : (tk k ep (ms.take j.1)).2.length + 1 ≤ maxLen := Nat.le_trans (show _ ≤ 20000 by omega) (by decide)
    by_cases h4 : ((tk k ep (ms.take j.1)).1.length : Int) < k
    · simp only [h4, decide_true, go_sem, reduceIte, Nat.reduceAdd, Nat.reduceMul, Nat.reduceSub, Nat.reduceEqDiff, Nat.reduceLeDiff, Nat.reduceLT, reduceCtorEq, Nat.succ_eq_add_one]
      refine goCall0 (fn75 _ ep) rfl rfl ?_
      simp only [go_sem, reduceIte, Nat.reduceAdd, Nat.reduceMul, Nat.reduceSub, Nat.reduceEqDiff, Nat.reduceLeDiff, Nat.reduceLT, reduceCtorEq, Nat.succ_eq_add_one]
      by_cases h5 : ms[j.1].epoch < ep
      · have e6 : tk k ep (ms.take (j.1 + 1)) = ((tk k ep (ms.take j.1)).1, (tk k ep (ms.take j.1)).2 ++ [ms[j.1]]) := by rw [e3]; unfold tkS; rw [if_pos h4, if_pos h5]
        simp only [h5, decide_true, w64_succ (show j.1 ≤ 100000 by omega), encM_take, List.take_length, List.drop_zero, Int.cast_ofNat_Int, Int.reduceBEq, Int.reduceLT, Int.reduceLE, Int.reduceSub, Int.reduceAdd, Int.reduceNeg, Int.reduceEq, Int.reduceToNat, decide_true, decide_false, decide_eq_true_eq, beq_self_eq_true, bne_self_eq_false, List.reduceReplicate, List.length_set, List.length_replicate, List.length_cons, List.length_nil, List.set_cons_zero, List.set_cons_succ, Int.toNat_natCast, go_sem, reduceIte, Nat.reduceAdd, Nat.reduceMul, Nat.reduceSub, Nat.reduceEqDiff, Nat.reduceLeDiff, Nat.reduceLT, reduceCtorEq, Nat.succ_eq_add_one]
        exact ⟨⟨by omega, m2, by omega⟩, hB _ ⟨j.1 + 1, e1⟩ (by simp only; omega) (Wk.mk [(16, 16), (128, 128), (1500, 2152), (1508, 1508)] [] rfl rfl (by simp only [tkSt, e6, rvH, rvO, rvL, rv, encM_app, encM_one, List.length_append, List.map_cons, List.map_nil, Int.cast_ofNat_Int, Int.reduceBEq, Int.reduceLT, Int.reduceLE, Int.reduceSub, Int.reduceAdd, Int.reduceNeg, Int.reduceEq, Int.reduceToNat, decide_true, decide_false, decide_eq_true_eq, beq_self_eq_true, bne_self_eq_false, List.reduceReplicate, List.length_set, List.length_replicate, List.length_cons, List.length_nil, List.set_cons_zero, List.set_cons_succ, Int.toNat_natCast, go_sem, reduceIte, Nat.reduceAdd, Nat.reduceMul, Nat.reduceSub, Nat.reduceEqDiff, Nat.reduceLeDiff, Nat.reduceLT, reduceCtorEq, Nat.succ_eq_add_one]) (by simp only [tkSt, go_sem, reduceIte, Nat.reduceAdd, Nat.reduceMul, Nat.reduceSub, Nat.reduceEqDiff, Nat.reduceLeDiff, Nat.reduceLT, reduceCtorEq, Nat.succ_eq_add_one]) (by simp only [tkSt, e6, rv, go_sem, reduceIte, Nat.reduceAdd, Nat.reduceMul, Nat.reduceSub, Nat.reduceEqDiff, Nat.reduceLeDiff, Nat.reduceLT, reduceCtorEq, Nat.succ_eq_add_one]))⟩
      · have e6 : tk k ep (ms.take (j.1 + 1)) = ((tk k ep (ms.take j.1)).1 ++ [ms[j.1]], (tk k ep (ms.take j.1)).2) := by rw [e3]; unfold tkS; rw [if_pos h4, if_neg h5]
        simp only [h5, decide_false, w64_succ (show j.1 ≤ 100000 by omega), encM_take, List.take_length, List.drop_zero, Int.cast_ofNat_Int, Int.reduceBEq, Int.reduceLT, Int.reduceLE, Int.reduceSub, Int.reduceAdd, Int.reduceNeg, Int.reduceEq, Int.reduceToNat, decide_true, decide_false, decide_eq_true_eq, beq_self_eq_true, bne_self_eq_false, List.reduceReplicate, List.length_set, List.length_replicate, List.length_cons, List.length_nil, List.set_cons_zero, List.set_cons_succ, Int.toNat_natCast, go_sem, reduceIte, Nat.reduceAdd, Nat.reduceMul, Nat.reduceSub, Nat.reduceEqDiff, Nat.reduceLeDiff, Nat.reduceLT, reduceCtorEq, Nat.succ_eq_add_one]
        exact ⟨⟨by omega, m1, by omega⟩, hB _ ⟨j.1 + 1, e1⟩ (by simp only; omega) (Wk.mk [(16, 16), (128, 128), (1500, 1500), (1508, 2144)] [] rfl rfl (by simp only [tkSt, e6, rvH, rvO, rvL, rv, encM_app, encM_one, List.length_append, List.map_cons, List.map_nil, Int.cast_ofNat_Int, Int.reduceBEq, Int.reduceLT, Int.reduceLE, Int.reduceSub, Int.reduceAdd, Int.reduceNeg, Int.reduceEq, Int.reduceToNat, decide_true, decide_false, decide_eq_true_eq, beq_self_eq_true, bne_self_eq_false, List.reduceReplicate, List.length_set, List.length_replicate, List.length_cons, List.length_nil, List.set_cons_zero, List.set_cons_succ, Int.toNat_natCast, go_sem, reduceIte, Nat.reduceAdd, Nat.reduceMul, Nat.reduceSub, Nat.reduceEqDiff, Nat.reduceLeDiff, Nat.reduceLT, reduceCtorEq, Nat.succ_eq_add_one]) (by simp only [tkSt, go_sem, reduceIte, Nat.reduceAdd, Nat.reduceMul, Nat.reduceSub, Nat.reduceEqDiff, Nat.reduceLeDiff, Nat.reduceLT, reduceCtorEq, Nat.succ_eq_add_one]) (by simp only [tkSt, e6, rv, List.length_append, Int.cast_ofNat_Int, Int.reduceBEq, Int.reduceLT, Int.reduceLE, Int.reduceSub, Int.reduceAdd, Int.reduceNeg, Int.reduceEq, Int.reduceToNat, decide_true, decide_false, decide_eq_true_eq, beq_self_eq_true, bne_self_eq_false, List.reduceReplicate, List.length_set, List.length_replicate, List.length_cons, List.length_nil, List.set_cons_zero, List.set_cons_succ, Int.toNat_natCast, go_sem, reduceIte, Nat.reduceAdd, Nat.reduceMul, Nat.reduceSub, Nat.reduceEqDiff, Nat.reduceLeDiff, Nat.reduceLT, reduceCtorEq, Nat.succ_eq_add_one]))⟩
    · have e6 : tk k ep (ms.take (j.1 + 1)) = ((tk k ep (ms.take j.1)).1, (tk k ep (ms.take j.1)).2 ++ [ms[j.1]]) := by rw [e3]; unfold tkS; rw [if_neg h4]
      simp only [h4, decide_false, w64_succ (show j.1 ≤ 100000 by omega), encM_take, List.take_length, List.drop_zero, Int.cast_ofNat_Int, Int.reduceBEq, Int.reduceLT, Int.reduceLE, Int.reduceSub, Int.reduceAdd, Int.reduceNeg, Int.reduceEq, Int.reduceToNat, decide_true, decide_false, decide_eq_true_eq, beq_self_eq_true, bne_self_eq_false, List.reduceReplicate, List.length_set, List.length_replicate, List.length_cons, List.length_nil, List.set_cons_zero, List.set_cons_succ, Int.toNat_natCast, go_sem, reduceIte, Nat.reduceAdd, Nat.reduceMul, Nat.reduceSub, Nat.reduceEqDiff, Nat.reduceLeDiff, Nat.reduceLT, reduceCtorEq, Nat.succ_eq_add_one]
      exact ⟨⟨by omega, m2, by omega⟩, hB _ ⟨j.1 + 1, e1⟩ (by simp only; omega) (Wk.mk [(16, 16), (128, 128), (1500, 2152), (1508, 1508)] [] rfl rfl (by simp only [tkSt, e6, rvH, rvO, rvL, rv, encM_app, encM_one, List.length_append, List.map_cons, List.map_nil, Int.cast_ofNat_Int, Int.reduceBEq, Int.reduceLT, Int.reduceLE, Int.reduceSub, Int.reduceAdd, Int.reduceNeg, Int.reduceEq, Int.reduceToNat, decide_true, decide_false, decide_eq_true_eq, beq_self_eq_true, bne_self_eq_false, List.reduceReplicate, List.length_set, List.length_replicate, List.length_cons, List.length_nil, List.set_cons_zero, List.set_cons_succ, Int.toNat_natCast, go_sem, reduceIte, Nat.reduceAdd, Nat.reduceMul, Nat.reduceSub, Nat.reduceEqDiff, Nat.reduceLeDiff, Nat.reduceLT, reduceCtorEq, Nat.succ_eq_add_one]) (by simp only [tkSt, go_sem, reduceIte, Nat.reduceAdd, Nat.reduceMul, Nat.reduceSub, Nat.reduceEqDiff, Nat.reduceLeDiff, Nat.reduceLT, reduceCtorEq, Nat.succ_eq_add_one]) (by simp only [tkSt, e6, rv, go_sem, reduceIte, Nat.reduceAdd, Nat.reduceMul, Nat.reduceSub, Nat.reduceEqDiff, Nat.reduceLeDiff, Nat.reduceLT, reduceCtorEq, Nat.succ_eq_add_one]))⟩
  · have e1 : j.1 = ms.length := by have := j.2; simp only [decide_eq_false_iff_not] at h3; omega
    have e3 : ms.take j.1 = ms := by rw [e1, List.take_length]
    refine Fin.mk0 _ rfl rfl ?_
    simp only [e3, retOne, rv, rvL, encM_take, List.take_length, List.drop_zero, List.map_nil, List.not_mem_nil, not_false_eq_true, true_and, Int.cast_ofNat_Int, Int.reduceBEq, Int.reduceLT, Int.reduceLE, Int.reduceSub, Int.reduceAdd, Int.reduceNeg, Int.reduceEq, Int.reduceToNat, decide_true, decide_false, decide_eq_true_eq, beq_self_eq_true, bne_self_eq_false, List.reduceReplicate, List.length_set, List.length_replicate, List.length_cons, List.length_nil, List.set_cons_zero, List.set_cons_succ, Int.toNat_natCast, go_sem, reduceIte, Nat.reduceAdd, Nat.reduceMul, Nat.reduceSub, Nat.reduceEqDiff, Nat.reduceLeDiff, Nat.reduceLT, reduceCtorEq, Nat.succ_eq_add_one]
    simp
end Go.Eng
