/-
  Walks and plain lemmas for ScriptTokens: what the functions named below compute, over the abstract states of the engine.
  No condition beyond those that each theorem states.
-/
import Derived.Test.YteonhcjaekodkaaMsg2
set_option linter.all false
set_option linter.unusedSimpArgs false
set_option maxRecDepth 20000
set_option maxHeartbeats 4000000
namespace Go.Eng
open Go Go.Proofs

def sndV (ms : List Msg) : Int := if invL ms ≠ 0 then invL ms else if dup ms then 10 else 0

theorem idx_lt {l : List Int} {x : Int} {k : Nat} (h : x ∈ l.take k) : l.idxOf x < k := by
  have e : l = l.take k ++ l.drop k := (List.take_append_drop k l).symm
  rw [e, List.idxOf_append, if_pos h]
  have := List.idxOf_lt_length_of_mem h
  simp only [List.length_take] at this
  omega

/-- All that the reference asks of messages. -/
theorem fn115 (ms : List Msg) (hl : ms.length ≤ 100000) : Fn Try.prog 115 [slM ms] [] (I (sndV ms)) [] [] := by
  refine Fn.of_go ok115 (by simp) ?_
  unfold s115
  simp only [go_sem, reduceIte, Nat.reduceAdd, Nat.reduceMul, Nat.reduceSub, Nat.reduceEqDiff, Nat.reduceLeDiff, Nat.reduceLT, reduceCtorEq, Nat.succ_eq_add_one]
  refine go_loop (fun j : {j : Nat // j ≤ ms.length ∧ invL (ms.take j) = 0} => ⟨1000, [(0, slM ms), (3, I j.1)], []⟩) (fun j => ms.length - j.1) ⟨0, by omega, rfl⟩ (Wk.mk [] [] rfl rfl (by simp only [go_sem, reduceIte, Nat.reduceAdd, Nat.reduceMul, Nat.reduceSub, Nat.reduceEqDiff, Nat.reduceLeDiff, Nat.reduceLT, reduceCtorEq, Nat.succ_eq_add_one]) (by simp only [go_sem, reduceIte, Nat.reduceAdd, Nat.reduceMul, Nat.reduceSub, Nat.reduceEqDiff, Nat.reduceLeDiff, Nat.reduceLT, reduceCtorEq, Nat.succ_eq_add_one]) (by simp only [rv, go_sem, reduceIte, Nat.reduceAdd, Nat.reduceMul, Nat.reduceSub, Nat.reduceEqDiff, Nat.reduceLeDiff, Nat.reduceLT, reduceCtorEq, Nat.succ_eq_add_one]; try rfl)) ?_
  intro j B hB
  simp only [go_sem, reduceIte, Nat.reduceAdd, Nat.reduceMul, Nat.reduceSub, Nat.reduceEqDiff, Nat.reduceLeDiff, Nat.reduceLT, reduceCtorEq, Nat.succ_eq_add_one]
  refine goIf_split (fun h1 => ?_) (fun h1 => ?_) <;> simp only [h1, go_sem, reduceIte, Nat.reduceAdd, Nat.reduceMul, Nat.reduceSub, Nat.reduceEqDiff, Nat.reduceLeDiff, Nat.reduceLT, reduceCtorEq, Nat.succ_eq_add_one]
  · have e1 : j.1 < ms.length := by simp only [decide_eq_true_eq] at h1; omega
    have e2 := invL_step e1 j.2.2
    simp only [Int.toNat_natCast, encM_nth e1, go_sem, reduceIte, Nat.reduceAdd, Nat.reduceMul, Nat.reduceSub, Nat.reduceEqDiff, Nat.reduceLeDiff, Nat.reduceLT, reduceCtorEq, Nat.succ_eq_add_one]
    have hq : 0 ≤ (j.1 : Int) ∧ (j.1 : Int) < (ms.length : Int) := ⟨by omega, by omega⟩
    refine ⟨hq, ?_⟩
    refine goCall0 (fn118 _) rfl rfl ?_
    simp only [go_sem, reduceIte, Nat.reduceAdd, Nat.reduceMul, Nat.reduceSub, Nat.reduceEqDiff, Nat.reduceLeDiff, Nat.reduceLT, reduceCtorEq, Nat.succ_eq_add_one]
    refine goIf_split (fun h2 => ?_) (fun h2 => ?_) <;> simp only [h2, go_sem, reduceIte, Nat.reduceAdd, Nat.reduceMul, Nat.reduceSub, Nat.reduceEqDiff, Nat.reduceLeDiff, Nat.reduceLT, reduceCtorEq, Nat.succ_eq_add_one]
    · have e3 : ms[j.1].val ≠ 0 := by simpa using h2
      have e4 := e2.2 e3
      refine Fin.eq0 _ rfl rfl rfl ?_
      simp only [retOne, sndV, e4, if_pos e3]
    · have e3 : ms[j.1].val = 0 := by simpa using h2
      simp only [w64_succ (show j.1 ≤ 100000 by omega), go_sem, reduceIte, Nat.reduceAdd, Nat.reduceMul, Nat.reduceSub, Nat.reduceEqDiff, Nat.reduceLeDiff, Nat.reduceLT, reduceCtorEq, Nat.succ_eq_add_one]
      exact hB _ ⟨j.1 + 1, e1, e2.1.trans e3⟩ (by simp only; omega) (Wk.mk [] [] rfl rfl (by simp only [go_sem, reduceIte, Nat.reduceAdd, Nat.reduceMul, Nat.reduceSub, Nat.reduceEqDiff, Nat.reduceLeDiff, Nat.reduceLT, reduceCtorEq, Nat.succ_eq_add_one]) (by simp only [go_sem, reduceIte, Nat.reduceAdd, Nat.reduceMul, Nat.reduceSub, Nat.reduceEqDiff, Nat.reduceLeDiff, Nat.reduceLT, reduceCtorEq, Nat.succ_eq_add_one]) (by simp only [rv, go_sem, reduceIte, Nat.reduceAdd, Nat.reduceMul, Nat.reduceSub, Nat.reduceEqDiff, Nat.reduceLeDiff, Nat.reduceLT, reduceCtorEq, Nat.succ_eq_add_one]))
  · have e1 : j.1 = ms.length := by have := j.2.1; simp only [decide_eq_false_iff_not] at h1; omega
    have e2 : invL ms = 0 := by have := j.2.2; rw [e1, List.take_length] at this; exact this
    refine go_loop (fun j : {j : Nat // j ≤ ms.length ∧ ((ids ms).take j).Nodup} => ⟨2000, [(0, slM ms), (5, I j.1)], []⟩) (fun j => ms.length - j.1) ⟨0, by omega, by simp⟩ (Wk.mk [] [] rfl rfl (by simp only [go_sem, reduceIte, Nat.reduceAdd, Nat.reduceMul, Nat.reduceSub, Nat.reduceEqDiff, Nat.reduceLeDiff, Nat.reduceLT, reduceCtorEq, Nat.succ_eq_add_one]) (by simp only [go_sem, reduceIte, Nat.reduceAdd, Nat.reduceMul, Nat.reduceSub, Nat.reduceEqDiff, Nat.reduceLeDiff, Nat.reduceLT, reduceCtorEq, Nat.succ_eq_add_one]) (by simp only [rv, go_sem, reduceIte, Nat.reduceAdd, Nat.reduceMul, Nat.reduceSub, Nat.reduceEqDiff, Nat.reduceLeDiff, Nat.reduceLT, reduceCtorEq, Nat.succ_eq_add_one]; try rfl)) ?_
    intro j B hB
    simp only [go_sem, reduceIte, Nat.reduceAdd, Nat.reduceMul, Nat.reduceSub, Nat.reduceEqDiff, Nat.reduceLeDiff, Nat.reduceLT, reduceCtorEq, Nat.succ_eq_add_one]
    refine goIf_split (fun h1 => ?_) (fun h1 => ?_) <;> simp only [h1, go_sem, reduceIte, Nat.reduceAdd, Nat.reduceMul, Nat.reduceSub, Nat.reduceEqDiff, Nat.reduceLeDiff, Nat.reduceLT, reduceCtorEq, Nat.succ_eq_add_one]
    · have e1 : j.1 < ms.length := by simp only [decide_eq_true_eq] at h1; omega
      have e3 : j.1 < (ids ms).length := by rw [ids_len]; exact e1
      have e4 : (ids ms)[j.1] = ms[j.1].id := by simp [ids]
      have hq : 0 ≤ (j.1 : Int) ∧ (j.1 : Int) < (ms.length : Int) := ⟨by omega, by omega⟩
      have e5 : nth (encM ms) j.1 = [I ms[j.1].id, I ms[j.1].route, I ms[j.1].epoch, I ms[j.1].count, I ms[j.1].gen, I ms[j.1].sent, .v (.string ms[j.1].body)] := encM_nth e1
      simp only [Int.toNat_natCast, e5, go_sem, reduceIte, Nat.reduceAdd, Nat.reduceMul, Nat.reduceSub, Nat.reduceEqDiff, Nat.reduceLeDiff, Nat.reduceLT, reduceCtorEq, Nat.succ_eq_add_one]
      refine ⟨hq, ?_⟩
      refine goCall0 (fn119 ms _ hl) rfl rfl ?_
      simp only [go_sem, reduceIte, Nat.reduceAdd, Nat.reduceMul, Nat.reduceSub, Nat.reduceEqDiff, Nat.reduceLeDiff, Nat.reduceLT, reduceCtorEq, Nat.succ_eq_add_one]
      refine goIf_split (fun h2 => ?_) (fun h2 => ?_) <;> simp only [h2, go_sem, reduceIte, Nat.reduceAdd, Nat.reduceMul, Nat.reduceSub, Nat.reduceEqDiff, Nat.reduceLeDiff, Nat.reduceLT, reduceCtorEq, Nat.succ_eq_add_one]
      · have e6 : idxV ms ms[j.1].id ≠ j.1 := by simpa using h2
        have e7 : (ids ms)[j.1] ∈ (ids ms).take j.1 := by
          by_cases h : (ids ms)[j.1] ∈ (ids ms).take j.1
          · exact h
          · have := idx_at e3 h rfl
            rw [e4] at this
            exact absurd (by unfold idxV; rw [if_pos this.1, this.2]) e6
        refine Fin.eq0 _ rfl rfl rfl ?_
        simp only [retOne, sndV, e2, dup_true e3 e7, ne_eq, not_true_eq_false, if_false, if_true]
      · have e6 : idxV ms ms[j.1].id = j.1 := by simpa using h2
        have e7 : (ids ms)[j.1] ∉ (ids ms).take j.1 := by
          intro h
          have h3 := idx_lt h
          rw [e4] at h3
          unfold idxV at e6
          rw [if_pos (by rw [← e4]; exact List.getElem_mem e3)] at e6
          omega
        simp only [w64_succ (show j.1 ≤ 100000 by omega), go_sem, reduceIte, Nat.reduceAdd, Nat.reduceMul, Nat.reduceSub, Nat.reduceEqDiff, Nat.reduceLeDiff, Nat.reduceLT, reduceCtorEq, Nat.succ_eq_add_one]
        exact hB _ ⟨j.1 + 1, e1, (take_succ_nodup e3).2 ⟨j.2.2, e7⟩⟩ (by simp only; omega) (Wk.mk [] [] rfl rfl (by simp only [go_sem, reduceIte, Nat.reduceAdd, Nat.reduceMul, Nat.reduceSub, Nat.reduceEqDiff, Nat.reduceLeDiff, Nat.reduceLT, reduceCtorEq, Nat.succ_eq_add_one]) (by simp only [go_sem, reduceIte, Nat.reduceAdd, Nat.reduceMul, Nat.reduceSub, Nat.reduceEqDiff, Nat.reduceLeDiff, Nat.reduceLT, reduceCtorEq, Nat.succ_eq_add_one]) (by simp only [rv, go_sem, reduceIte, Nat.reduceAdd, Nat.reduceMul, Nat.reduceSub, Nat.reduceEqDiff, Nat.reduceLeDiff, Nat.reduceLT, reduceCtorEq, Nat.succ_eq_add_one]))
    · have e1 : j.1 = ms.length := by have := j.2.1; simp only [decide_eq_false_iff_not] at h1; omega
      have e3 := j.2.2
      rw [e1, List.take_of_length_le (by rw [ids_len]; omega)] at e3
      have e4 : dup ms = false := by simp [dup, e3]
      refine Fin.eq0 _ rfl rfl rfl ?_
      simp only [retOne, sndV, e2, e4]
      rfl

/-- A store's first error. -/
def deadV (c : Int) (ms : List Msg) : Int := if c < 1 then 1 else if 24 < c then 1 else if c < ms.length then 2 else sndV ms

theorem fn70 (c : Int) (ms : List Msg) (hl : ms.length ≤ 100000) : Fn Try.prog 70 [.agg [I c, slM ms]] [] (I (deadV c ms)) [] [] := by
  refine Fn.of_go ok70 (by simp) ?_
  unfold s70 deadV
  simp only [go_sem, reduceIte, Nat.reduceAdd, Nat.reduceMul, Nat.reduceSub, Nat.reduceEqDiff, Nat.reduceLeDiff, Nat.reduceLT, reduceCtorEq, Nat.succ_eq_add_one]
  by_cases h1 : c < 1
  · simp only [h1, decide_true, if_true, go_sem, reduceIte, Nat.reduceAdd, Nat.reduceMul, Nat.reduceSub, Nat.reduceEqDiff, Nat.reduceLeDiff, Nat.reduceLT, reduceCtorEq, Nat.succ_eq_add_one]
    exact Fin.eq0 _ rfl rfl rfl rfl
  by_cases h2 : 24 < c
  · simp only [h1, h2, decide_true, decide_false, if_true, if_false, go_sem, reduceIte, Nat.reduceAdd, Nat.reduceMul, Nat.reduceSub, Nat.reduceEqDiff, Nat.reduceLeDiff, Nat.reduceLT, reduceCtorEq, Nat.succ_eq_add_one]
    exact Fin.eq0 _ rfl rfl rfl rfl
  by_cases h3 : c < ms.length
  · simp only [h1, h2, h3, decide_true, decide_false, if_true, if_false, go_sem, reduceIte, Nat.reduceAdd, Nat.reduceMul, Nat.reduceSub, Nat.reduceEqDiff, Nat.reduceLeDiff, Nat.reduceLT, reduceCtorEq, Nat.succ_eq_add_one]
    exact Fin.eq0 _ rfl rfl rfl rfl
  simp only [h1, h2, h3, decide_false, if_false, go_sem, reduceIte, Nat.reduceAdd, Nat.reduceMul, Nat.reduceSub, Nat.reduceEqDiff, Nat.reduceLeDiff, Nat.reduceLT, reduceCtorEq, Nat.succ_eq_add_one]
  refine goCall0 (fn71 ms hl) rfl rfl ?_
  simp only [go_sem, reduceIte, Nat.reduceAdd, Nat.reduceMul, Nat.reduceSub, Nat.reduceEqDiff, Nat.reduceLeDiff, Nat.reduceLT, reduceCtorEq, Nat.succ_eq_add_one]
  refine goIf_split (fun h4 => ?_) (fun h4 => ?_) <;> simp only [h4, go_sem, reduceIte, Nat.reduceAdd, Nat.reduceMul, Nat.reduceSub, Nat.reduceEqDiff, Nat.reduceLeDiff, Nat.reduceLT, reduceCtorEq, Nat.succ_eq_add_one]
  · refine Fin.eq0 _ rfl rfl rfl ?_
    have e : invL ms ≠ 0 := by simpa using h4
    simp only [retOne, sndV, if_pos e]
  · have e : invL ms = 0 := by simpa using h4
    refine goCall0 (fn73 ms hl) rfl rfl ?_
    simp only [go_sem, reduceIte, Nat.reduceAdd, Nat.reduceMul, Nat.reduceSub, Nat.reduceEqDiff, Nat.reduceLeDiff, Nat.reduceLT, reduceCtorEq, Nat.succ_eq_add_one]
    refine goIf_split (fun h5 => ?_) (fun h5 => ?_) <;> simp only [h5, go_sem, reduceIte, Nat.reduceAdd, Nat.reduceMul, Nat.reduceSub, Nat.reduceEqDiff, Nat.reduceLeDiff, Nat.reduceLT, reduceCtorEq, Nat.succ_eq_add_one]
    · refine Fin.eq0 _ rfl rfl rfl ?_
      simp only [retOne, sndV, e, h5, ne_eq, not_true_eq_false, if_false, if_true]
    · refine Fin.eq0 _ rfl rfl rfl ?_
      simp only [retOne, sndV, e, h5, ne_eq, not_true_eq_false, if_false]
      rfl

theorem fn84 (c : Int) (ms : List Msg) (hl : ms.length ≤ 100000) : Fn Try.prog 84 [.agg [I c, slM ms]] [] (I (deadV c ms)) [] [] := by
  refine Fn.of_go ok84 (by simp) ?_
  unfold s84 deadV
  simp only [go_sem, reduceIte, Nat.reduceAdd, Nat.reduceMul, Nat.reduceSub, Nat.reduceEqDiff, Nat.reduceLeDiff, Nat.reduceLT, reduceCtorEq, Nat.succ_eq_add_one]
  by_cases h1 : c < 1
  · simp only [h1, decide_true, if_true, go_sem, reduceIte, Nat.reduceAdd, Nat.reduceMul, Nat.reduceSub, Nat.reduceEqDiff, Nat.reduceLeDiff, Nat.reduceLT, reduceCtorEq, Nat.succ_eq_add_one]
    exact Fin.eq0 _ rfl rfl rfl rfl
  by_cases h2 : 24 < c
  · simp only [h1, h2, decide_true, decide_false, if_true, if_false, go_sem, reduceIte, Nat.reduceAdd, Nat.reduceMul, Nat.reduceSub, Nat.reduceEqDiff, Nat.reduceLeDiff, Nat.reduceLT, reduceCtorEq, Nat.succ_eq_add_one]
    exact Fin.eq0 _ rfl rfl rfl rfl
  by_cases h3 : c < ms.length
  · simp only [h1, h2, h3, decide_true, decide_false, if_true, if_false, go_sem, reduceIte, Nat.reduceAdd, Nat.reduceMul, Nat.reduceSub, Nat.reduceEqDiff, Nat.reduceLeDiff, Nat.reduceLT, reduceCtorEq, Nat.succ_eq_add_one]
    exact Fin.eq0 _ rfl rfl rfl rfl
  simp only [h1, h2, h3, decide_false, if_false, go_sem, reduceIte, Nat.reduceAdd, Nat.reduceMul, Nat.reduceSub, Nat.reduceEqDiff, Nat.reduceLeDiff, Nat.reduceLT, reduceCtorEq, Nat.succ_eq_add_one]
  refine goCall0 (fn115 ms hl) rfl rfl ?_
  simp only [go_sem, reduceIte, Nat.reduceAdd, Nat.reduceMul, Nat.reduceSub, Nat.reduceEqDiff, Nat.reduceLeDiff, Nat.reduceLT, reduceCtorEq, Nat.succ_eq_add_one]
  exact Fin.eq0 _ rfl rfl rfl rfl

/-- Room. -/
def roomV (c : Int) (ms : List Msg) : Int := if deadV c ms ≠ 0 then 0 else c - ms.length
theorem deadV_zero {c : Int} {ms : List Msg} (h : deadV c ms = 0) : 1 ≤ c ∧ c ≤ 24 ∧ (ms.length : Int) ≤ c ∧ invL ms = 0 ∧ dup ms = false := by
  unfold deadV sndV at h
  repeat' split at h
  all_goals simp_all
  all_goals omega
theorem fn33 (c : Int) (ms : List Msg) (hl : ms.length ≤ 100000) : Fn Try.prog 33 [.agg [I c, slM ms]] [] (I (roomV c ms)) [] [] := by
  refine Fn.of_go ok33 (by simp) ?_
  unfold s33
  simp only [go_sem, reduceIte, Nat.reduceAdd, Nat.reduceMul, Nat.reduceSub, Nat.reduceEqDiff, Nat.reduceLeDiff, Nat.reduceLT, reduceCtorEq, Nat.succ_eq_add_one]
  refine goCall0 (fn70 c ms hl) rfl rfl ?_
  simp only [go_sem, reduceIte, Nat.reduceAdd, Nat.reduceMul, Nat.reduceSub, Nat.reduceEqDiff, Nat.reduceLeDiff, Nat.reduceLT, reduceCtorEq, Nat.succ_eq_add_one]
  refine goIf_split (fun h1 => ?_) (fun h1 => ?_) <;> simp only [h1, go_sem, reduceIte, Nat.reduceAdd, Nat.reduceMul, Nat.reduceSub, Nat.reduceEqDiff, Nat.reduceLeDiff, Nat.reduceLT, reduceCtorEq, Nat.succ_eq_add_one]
  · refine Fin.eq0 _ rfl rfl rfl ?_
    have e : deadV c ms ≠ 0 := by simpa using h1
    simp only [retOne, roomV, if_pos e]
  · have e : deadV c ms = 0 := by simpa using h1
    have e2 := deadV_zero e
    refine Fin.eq0 _ rfl rfl rfl ?_
    simp only [retOne, roomV, e, w64 (n := c - ms.length) (by omega), ne_eq, not_true_eq_false, if_false]
theorem fn85 (c : Int) (ms : List Msg) (hl : ms.length ≤ 100000) : Fn Try.prog 85 [.agg [I c, slM ms]] [] (I (roomV c ms)) [] [] := by
  refine Fn.of_go ok85 (by simp) ?_
  unfold s85
  simp only [go_sem, reduceIte, Nat.reduceAdd, Nat.reduceMul, Nat.reduceSub, Nat.reduceEqDiff, Nat.reduceLeDiff, Nat.reduceLT, reduceCtorEq, Nat.succ_eq_add_one]
  refine goCall0 (fn84 c ms hl) rfl rfl ?_
  simp only [go_sem, reduceIte, Nat.reduceAdd, Nat.reduceMul, Nat.reduceSub, Nat.reduceEqDiff, Nat.reduceLeDiff, Nat.reduceLT, reduceCtorEq, Nat.succ_eq_add_one]
  refine goIf_split (fun h1 => ?_) (fun h1 => ?_) <;> simp only [h1, go_sem, reduceIte, Nat.reduceAdd, Nat.reduceMul, Nat.reduceSub, Nat.reduceEqDiff, Nat.reduceLeDiff, Nat.reduceLT, reduceCtorEq, Nat.succ_eq_add_one]
  · refine Fin.eq0 _ rfl rfl rfl ?_
    have e : deadV c ms ≠ 0 := by simpa using h1
    simp only [retOne, roomV, if_pos e]
  · have e : deadV c ms = 0 := by simpa using h1
    have e2 := deadV_zero e
    refine Fin.eq0 _ rfl rfl rfl ?_
    simp only [retOne, roomV, e, w64 (n := c - ms.length) (by omega), ne_eq, not_true_eq_false, if_false]

abbrev deadA (c : Int) (ms : List Msg) : AV := .agg [I c, slM ms]
def newA (k : Int) : AV := if k < 1 then .tup [deadA 0 [], I 1] else if 24 < k then .tup [deadA 0 [], I 1] else .tup [deadA k [], I 0]
theorem fn26 (k : Int) : Fn Try.prog 26 [I k] [] (newA k) [] [] := by
  refine Fn.of_go ok26 (by simp) ?_
  unfold s26 newA
  simp only [go_sem, reduceIte, Nat.reduceAdd, Nat.reduceMul, Nat.reduceSub, Nat.reduceEqDiff, Nat.reduceLeDiff, Nat.reduceLT, reduceCtorEq, Nat.succ_eq_add_one]
  by_cases h1 : k < 1
  · simp only [h1, decide_true, if_true, go_sem, reduceIte, Nat.reduceAdd, Nat.reduceMul, Nat.reduceSub, Nat.reduceEqDiff, Nat.reduceLeDiff, Nat.reduceLT, reduceCtorEq, Nat.succ_eq_add_one]
    exact Fin.mk0 _ rfl rfl (by simp only [retOne, rv, rvL, encM, List.map_nil, go_sem, reduceIte, Nat.reduceAdd, Nat.reduceMul, Nat.reduceSub, Nat.reduceEqDiff, Nat.reduceLeDiff, Nat.reduceLT, reduceCtorEq, Nat.succ_eq_add_one])
  by_cases h2 : 24 < k
  · simp only [h1, h2, decide_true, decide_false, if_true, if_false, go_sem, reduceIte, Nat.reduceAdd, Nat.reduceMul, Nat.reduceSub, Nat.reduceEqDiff, Nat.reduceLeDiff, Nat.reduceLT, reduceCtorEq, Nat.succ_eq_add_one]
    exact Fin.mk0 _ rfl rfl (by simp only [retOne, rv, rvL, encM, List.map_nil, go_sem, reduceIte, Nat.reduceAdd, Nat.reduceMul, Nat.reduceSub, Nat.reduceEqDiff, Nat.reduceLeDiff, Nat.reduceLT, reduceCtorEq, Nat.succ_eq_add_one])
  simp only [h1, h2, decide_false, if_false, go_sem, reduceIte, Nat.reduceAdd, Nat.reduceMul, Nat.reduceSub, Nat.reduceEqDiff, Nat.reduceLeDiff, Nat.reduceLT, reduceCtorEq, Nat.succ_eq_add_one]
  exact Fin.mk0 _ rfl rfl (by simp only [retOne, rv, rvL, encM, List.map_nil, go_sem, reduceIte, Nat.reduceAdd, Nat.reduceMul, Nat.reduceSub, Nat.reduceEqDiff, Nat.reduceLeDiff, Nat.reduceLT, reduceCtorEq, Nat.succ_eq_add_one])
theorem fn45 (k : Int) : Fn Try.prog 45 [I k] [] (newA k) [] [] := by
  refine Fn.of_go ok45 (by simp) ?_
  unfold s45 newA
  simp only [go_sem, reduceIte, Nat.reduceAdd, Nat.reduceMul, Nat.reduceSub, Nat.reduceEqDiff, Nat.reduceLeDiff, Nat.reduceLT, reduceCtorEq, Nat.succ_eq_add_one]
  by_cases h1 : k < 1
  · simp only [h1, decide_true, if_true, go_sem, reduceIte, Nat.reduceAdd, Nat.reduceMul, Nat.reduceSub, Nat.reduceEqDiff, Nat.reduceLeDiff, Nat.reduceLT, reduceCtorEq, Nat.succ_eq_add_one]
    exact Fin.mk0 _ rfl rfl (by simp only [retOne, rv, rvL, encM, List.map_nil, go_sem, reduceIte, Nat.reduceAdd, Nat.reduceMul, Nat.reduceSub, Nat.reduceEqDiff, Nat.reduceLeDiff, Nat.reduceLT, reduceCtorEq, Nat.succ_eq_add_one])
  by_cases h2 : 24 < k
  · simp only [h1, h2, decide_true, decide_false, if_true, if_false, go_sem, reduceIte, Nat.reduceAdd, Nat.reduceMul, Nat.reduceSub, Nat.reduceEqDiff, Nat.reduceLeDiff, Nat.reduceLT, reduceCtorEq, Nat.succ_eq_add_one]
    exact Fin.mk0 _ rfl rfl (by simp only [retOne, rv, rvL, encM, List.map_nil, go_sem, reduceIte, Nat.reduceAdd, Nat.reduceMul, Nat.reduceSub, Nat.reduceEqDiff, Nat.reduceLeDiff, Nat.reduceLT, reduceCtorEq, Nat.succ_eq_add_one])
  simp only [h1, h2, decide_false, if_false, go_sem, reduceIte, Nat.reduceAdd, Nat.reduceMul, Nat.reduceSub, Nat.reduceEqDiff, Nat.reduceLeDiff, Nat.reduceLT, reduceCtorEq, Nat.succ_eq_add_one]
  exact Fin.mk0 _ rfl rfl (by simp only [retOne, rv, rvL, encM, List.map_nil, go_sem, reduceIte, Nat.reduceAdd, Nat.reduceMul, Nat.reduceSub, Nat.reduceEqDiff, Nat.reduceLeDiff, Nat.reduceLT, reduceCtorEq, Nat.succ_eq_add_one])

def validV (c : Int) (ms : List Msg) (ep : Int) : Int := if deadV c ms ≠ 0 then deadV c ms else if ep < 0 then 1 else if 65536 < ep then 1 else 0
theorem fn74 (c : Int) (ms : List Msg) (ep : Int) (hl : ms.length ≤ 100000) : Fn Try.prog 74 [deadA c ms, I ep] [] (I (validV c ms ep)) [] [] := by
  refine Fn.of_go ok74 (by simp) ?_
  unfold s74
  simp only [go_sem, reduceIte, Nat.reduceAdd, Nat.reduceMul, Nat.reduceSub, Nat.reduceEqDiff, Nat.reduceLeDiff, Nat.reduceLT, reduceCtorEq, Nat.succ_eq_add_one]
  refine goCall0 (fn70 c ms hl) rfl rfl ?_
  simp only [go_sem, reduceIte, Nat.reduceAdd, Nat.reduceMul, Nat.reduceSub, Nat.reduceEqDiff, Nat.reduceLeDiff, Nat.reduceLT, reduceCtorEq, Nat.succ_eq_add_one]
  refine goIf_split (fun h1 => ?_) (fun h1 => ?_) <;> simp only [h1, go_sem, reduceIte, Nat.reduceAdd, Nat.reduceMul, Nat.reduceSub, Nat.reduceEqDiff, Nat.reduceLeDiff, Nat.reduceLT, reduceCtorEq, Nat.succ_eq_add_one]
  · refine Fin.eq0 _ rfl rfl rfl ?_
    have e : deadV c ms ≠ 0 := by simpa using h1
    simp only [retOne, validV, if_pos e]
  · have e : deadV c ms = 0 := by simpa using h1
    by_cases h2 : ep < 0
    · simp only [h2, decide_true, go_sem, reduceIte, Nat.reduceAdd, Nat.reduceMul, Nat.reduceSub, Nat.reduceEqDiff, Nat.reduceLeDiff, Nat.reduceLT, reduceCtorEq, Nat.succ_eq_add_one]
      exact Fin.eq0 _ rfl rfl rfl (by simp only [retOne, validV, e, h2, ne_eq, not_true_eq_false, if_false, if_true])
    by_cases h3 : 65536 < ep
    · simp only [h2, h3, decide_true, decide_false, go_sem, reduceIte, Nat.reduceAdd, Nat.reduceMul, Nat.reduceSub, Nat.reduceEqDiff, Nat.reduceLeDiff, Nat.reduceLT, reduceCtorEq, Nat.succ_eq_add_one]
      exact Fin.eq0 _ rfl rfl rfl (by simp only [retOne, validV, e, h2, h3, ne_eq, not_true_eq_false, if_false, if_true])
    · simp only [h2, h3, decide_false, go_sem, reduceIte, Nat.reduceAdd, Nat.reduceMul, Nat.reduceSub, Nat.reduceEqDiff, Nat.reduceLeDiff, Nat.reduceLT, reduceCtorEq, Nat.succ_eq_add_one]
      exact Fin.eq0 _ rfl rfl rfl (by simp only [retOne, validV, e, h2, h3, ne_eq, not_true_eq_false, if_false])
theorem fn75 (m : Msg) (ep : Int) : Fn Try.prog 75 [.agg m.enc, I ep] [] (Bo (decide (m.epoch < ep))) [] [] := by
  refine Fn.of_go ok75 (by simp) ?_
  unfold s75 Msg.enc
  simp only [go_sem, reduceIte, Nat.reduceAdd, Nat.reduceMul, Nat.reduceSub, Nat.reduceEqDiff, Nat.reduceLeDiff, Nat.reduceLT, reduceCtorEq, Nat.succ_eq_add_one]
  exact Fin.eq0 _ rfl rfl rfl rfl
theorem fn116 (m : Msg) (ep : Int) : Fn Try.prog 116 [.agg m.enc, I ep] [] (Bo (decide (m.epoch < ep))) [] [] := by
  refine Fn.of_go ok116 (by simp) ?_
  unfold s116 Msg.enc
  simp only [go_sem, reduceIte, Nat.reduceAdd, Nat.reduceMul, Nat.reduceSub, Nat.reduceEqDiff, Nat.reduceLeDiff, Nat.reduceLT, reduceCtorEq, Nat.succ_eq_add_one]
  exact Fin.eq0 _ rfl rfl rfl rfl
end Go.Eng
