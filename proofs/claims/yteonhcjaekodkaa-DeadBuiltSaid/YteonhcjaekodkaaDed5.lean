/-
  Walks and plain lemmas for DeadBuilt: what the functions named below compute, over the abstract states of the engine.
  No condition beyond those that each theorem states.
-/
import Derived.Test.YteonhcjaekodkaaDed3
import Derived.Test.YteonhcjaekodkaaEngE
set_option linter.all false
set_option linter.unusedSimpArgs false
set_option maxRecDepth 20000
set_option maxHeartbeats 4000000
namespace Go.Eng
open Go Go.Proofs

theorem goOuts (bs : List (List AV)) (gs : List Ob) : outs bs gs = obsFrom 0 (bs.map .box) ++ obsFrom 4 gs := rfl
attribute [go_sem] goOuts

theorem encM_takeL (cs : List Msg) : (encM cs).take cs.length = encM cs := by rw [← encM_len, List.take_length]
attribute [go_sem] encM_takeL
theorem fn82 (m : Msg) (ep : Int) : Fn Try.prog 82 [.agg m.enc, .ptr 0 0] [[I ep]] (Bo (decide (m.epoch < ep))) [[I ep]] [] := by
  refine Fn.of_go ok82 (by simp) ?_
  unfold s82
  simp only [Int.cast_ofNat_Int, Int.reduceBEq, Int.reduceLT, Int.reduceLE, Int.reduceSub, Int.reduceAdd, Int.reduceNeg, Int.reduceEq, Int.reduceToNat, decide_true, decide_false, decide_eq_true_eq, beq_self_eq_true, bne_self_eq_false, List.reduceReplicate, List.length_set, List.length_replicate, List.length_cons, List.length_nil, List.set_cons_zero, List.set_cons_succ, Int.toNat_natCast, go_sem, reduceIte, Nat.reduceAdd, Nat.reduceMul, Nat.reduceSub, Nat.reduceEqDiff, Nat.reduceLeDiff, Nat.reduceLT, reduceCtorEq, Nat.succ_eq_add_one]
  refine goCall0 (fn75 m ep) rfl rfl ?_
  simp only [Int.cast_ofNat_Int, Int.reduceBEq, Int.reduceLT, Int.reduceLE, Int.reduceSub, Int.reduceAdd, Int.reduceNeg, Int.reduceEq, Int.reduceToNat, decide_true, decide_false, decide_eq_true_eq, beq_self_eq_true, bne_self_eq_false, List.reduceReplicate, List.length_set, List.length_replicate, List.length_cons, List.length_nil, List.set_cons_zero, List.set_cons_succ, Int.toNat_natCast, go_sem, reduceIte, Nat.reduceAdd, Nat.reduceMul, Nat.reduceSub, Nat.reduceEqDiff, Nat.reduceLeDiff, Nat.reduceLT, reduceCtorEq, Nat.succ_eq_add_one]
  exact Fin.eq1 _ rfl rfl rfl rfl rfl rfl rfl

/-- The end of a function that hands out an empty row for nil. -/
theorem Fin.mkN {res : List SRes} {r : AV} {t : List (Nat × AV)} {h : List (Nat × Ob)} {e : TypeId} {sz : Nat} (vs : List AV) (h1 : retV t h res = some vs)
    (h2 : okS h [] [4] [(4, .row e sz [])] = true) (h3 : rv h [] [4] r (retOne vs)) : Fin res r [] [.row e sz []] t h := by
  have e1 : outs [] [.row e sz []] = [(4, .row e sz [])] := rfl
  refine ⟨[], [4], vs, h1, by rw [e1]; exact h2, by simp only [rvH], ?_, h3⟩
  rw [e1]
  simp only [rvN, get, if_true, and_self]
theorem fn81 (ms : List Msg) (h1 : ms.length ≤ 10000) : Fn Try.prog 81 [slM ms] [] (.own 4 7 0 ms.length) [] [.row 44 7 (encM ms)] := by
  refine Fn.of_go ok81 (by simp) ?_
  unfold s81
  cases ms with
  | nil =>
    simp only [slM, encM, List.map_nil, Int.cast_ofNat_Int, Int.reduceBEq, Int.reduceLT, Int.reduceLE, Int.reduceSub, Int.reduceAdd, Int.reduceNeg, Int.reduceEq, Int.reduceToNat, decide_true, decide_false, decide_eq_true_eq, beq_self_eq_true, bne_self_eq_false, List.reduceReplicate, List.length_set, List.length_replicate, List.length_cons, List.length_nil, List.set_cons_zero, List.set_cons_succ, Int.toNat_natCast, go_sem, reduceIte, Nat.reduceAdd, Nat.reduceMul, Nat.reduceSub, Nat.reduceEqDiff, Nat.reduceLeDiff, Nat.reduceLT, reduceCtorEq, Nat.succ_eq_add_one]
    refine ⟨?_, ?_⟩
    · exact Fin.mkN _ rfl rfl (by simp [retOne, rv])
    · try simp only [List.take_zero, List.drop_zero, List.nil_append, List.length_nil, Int.cast_ofNat_Int, Int.reduceBEq, Int.reduceLT, Int.reduceLE, Int.reduceSub, Int.reduceAdd, Int.reduceNeg, Int.reduceEq, Int.reduceToNat, decide_true, decide_false, decide_eq_true_eq, beq_self_eq_true, bne_self_eq_false, List.reduceReplicate, List.length_set, List.length_replicate, List.length_cons, List.length_nil, List.set_cons_zero, List.set_cons_succ, Int.toNat_natCast, go_sem, reduceIte, Nat.reduceAdd, Nat.reduceMul, Nat.reduceSub, Nat.reduceEqDiff, Nat.reduceLeDiff, Nat.reduceLT, reduceCtorEq, Nat.succ_eq_add_one]
      exact ⟨Nat.zero_le _, Fin.mkE1 48 _ rfl rfl rfl (by simp only [retOne, rv, get, if_true, and_self])⟩
  | cons m l =>
    have e1 : encM (m :: l) = m.enc :: encM l := rfl
    have hm : l.length + 1 ≤ maxLen := Nat.le_trans (show _ ≤ 10000 by simpa using h1) (by decide)
    simp only [List.length_cons] at h1
    simp only [slM, e1, encM_len, List.take_zero, List.drop_zero, List.nil_append, List.length_nil, Int.cast_ofNat_Int, Int.reduceBEq, Int.reduceLT, Int.reduceLE, Int.reduceSub, Int.reduceAdd, Int.reduceNeg, Int.reduceEq, Int.reduceToNat, decide_true, decide_false, decide_eq_true_eq, beq_self_eq_true, bne_self_eq_false, List.reduceReplicate, List.length_set, List.length_replicate, List.length_cons, List.length_nil, List.set_cons_zero, List.set_cons_succ, Int.toNat_natCast, go_sem, reduceIte, Nat.reduceAdd, Nat.reduceMul, Nat.reduceSub, Nat.reduceEqDiff, Nat.reduceLeDiff, Nat.reduceLT, reduceCtorEq, Nat.succ_eq_add_one]
    exact ⟨⟨by omega, hm⟩, Fin.mkE1 48 _ rfl rfl rfl (by simp only [retOne, rv, get, if_true, and_self])⟩

/-- The first that is purged, or -1; those that are not. -/
def prg (ep : Int) (m : Msg) : Bool := decide (m.epoch < ep)
def pidx (ep : Int) (ms : List Msg) : Nat := ms.findIdx (prg ep)
def keep (ep : Int) (ms : List Msg) : List Msg := ms.filter fun m => !prg ep m

theorem fn110 (ms : List Msg) (ep : Int) (hl : ms.length ≤ 10000) : FnG Try.prog 110 [slM ms, .fn 82 [.ptr 0 0]] [[I ep]] [] (I (if pidx ep ms < ms.length then (pidx ep ms : Int) else -1)) [[I ep]] [] := by
  refine FnG.of_go ok110 (by simp) ?_
  unfold s110
  simp only [Int.cast_ofNat_Int, Int.reduceBEq, Int.reduceLT, Int.reduceLE, Int.reduceSub, Int.reduceAdd, Int.reduceNeg, Int.reduceEq, Int.reduceToNat, decide_true, decide_false, decide_eq_true_eq, beq_self_eq_true, bne_self_eq_false, List.reduceReplicate, List.length_set, List.length_replicate, List.length_cons, List.length_nil, List.set_cons_zero, List.set_cons_succ, Int.toNat_natCast, go_sem, reduceIte, Nat.reduceAdd, Nat.reduceMul, Nat.reduceSub, Nat.reduceEqDiff, Nat.reduceLeDiff, Nat.reduceLT, reduceCtorEq, Nat.succ_eq_add_one]
  refine go_loop (fun j : {j : Nat // j ≤ ms.length ∧ ∀ m ∈ ms.take j, prg ep m = false} => ⟨1000, [(0, slM ms), (1, .fn 82 [.ptr 0 0]), (7, I ms.length), (8, I j.1)], [(0, .box [I ep])]⟩) (fun j => ms.length - j.1) ⟨0, by omega, by simp⟩
    (Wk.mk [(0, 0)] [] rfl rfl (by simp only [rvH, rvO, rvL, rv, go_sem, reduceIte, Nat.reduceAdd, Nat.reduceMul, Nat.reduceSub, Nat.reduceEqDiff, Nat.reduceLeDiff, Nat.reduceLT, reduceCtorEq, Nat.succ_eq_add_one]) (by simp only [go_sem, reduceIte, Nat.reduceAdd, Nat.reduceMul, Nat.reduceSub, Nat.reduceEqDiff, Nat.reduceLeDiff, Nat.reduceLT, reduceCtorEq, Nat.succ_eq_add_one]) (by simp only [rv, rvL, Int.cast_ofNat_Int, Int.reduceBEq, Int.reduceLT, Int.reduceLE, Int.reduceSub, Int.reduceAdd, Int.reduceNeg, Int.reduceEq, Int.reduceToNat, decide_true, decide_false, decide_eq_true_eq, beq_self_eq_true, bne_self_eq_false, List.reduceReplicate, List.length_set, List.length_replicate, List.length_cons, List.length_nil, List.set_cons_zero, List.set_cons_succ, Int.toNat_natCast, go_sem, reduceIte, Nat.reduceAdd, Nat.reduceMul, Nat.reduceSub, Nat.reduceEqDiff, Nat.reduceLeDiff, Nat.reduceLT, reduceCtorEq, Nat.succ_eq_add_one]; try simp)) ?_
  intro j B hB
  simp only [go_sem, reduceIte, Nat.reduceAdd, Nat.reduceMul, Nat.reduceSub, Nat.reduceEqDiff, Nat.reduceLeDiff, Nat.reduceLT, reduceCtorEq, Nat.succ_eq_add_one]
  refine goIf_split (fun h1 => ?_) (fun h1 => ?_) <;> simp only [h1, go_sem, reduceIte, Nat.reduceAdd, Nat.reduceMul, Nat.reduceSub, Nat.reduceEqDiff, Nat.reduceLeDiff, Nat.reduceLT, reduceCtorEq, Nat.succ_eq_add_one]
  · have e1 : j.1 < ms.length := by simp only [decide_eq_true_eq] at h1; omega
    have hq : 0 ≤ (j.1 : Int) ∧ (j.1 : Int) < (ms.length : Int) := ⟨by omega, by omega⟩
    simp only [Int.toNat_natCast, encM_nth e1, Nat.zero_add, go_sem, reduceIte, Nat.reduceAdd, Nat.reduceMul, Nat.reduceSub, Nat.reduceEqDiff, Nat.reduceLeDiff, Nat.reduceLT, reduceCtorEq, Nat.succ_eq_add_one]
    refine ⟨hq, ?_⟩
    refine goCall1 (b := 0) (fn82 _ ep) ⟨⟨rfl, rfl⟩, rfl, trivial⟩ rfl rfl rfl rfl ?_
    simp only [go_sem, reduceIte, Nat.reduceAdd, Nat.reduceMul, Nat.reduceSub, Nat.reduceEqDiff, Nat.reduceLeDiff, Nat.reduceLT, reduceCtorEq, Nat.succ_eq_add_one]
    refine goIf_split (fun h2 => ?_) (fun h2 => ?_) <;> simp only [h2, go_sem, reduceIte, Nat.reduceAdd, Nat.reduceMul, Nat.reduceSub, Nat.reduceEqDiff, Nat.reduceLeDiff, Nat.reduceLT, reduceCtorEq, Nat.succ_eq_add_one]
    · have e3 : pidx ep ms = j.1 := by
        unfold pidx
        rw [List.findIdx_eq e1]
        refine ⟨h2, fun k hk => ?_⟩
        exact j.2.2 _ (by rw [List.mem_take_iff_getElem]; exact ⟨k, by omega, rfl⟩)
      rw [e3, if_pos e1]
      exact Fin.eq1 _ rfl rfl rfl rfl rfl rfl rfl
    · simp only [w64_succ (show j.1 ≤ 100000 by omega), go_sem, reduceIte, Nat.reduceAdd, Nat.reduceMul, Nat.reduceSub, Nat.reduceEqDiff, Nat.reduceLeDiff, Nat.reduceLT, reduceCtorEq, Nat.succ_eq_add_one]
      refine hB _ ⟨j.1 + 1, e1, fun m hm => ?_⟩ (by simp only; omega) (Wk.mk [(0, 0)] [] rfl rfl (by simp only [rvH, rvO, rvL, rv, go_sem, reduceIte, Nat.reduceAdd, Nat.reduceMul, Nat.reduceSub, Nat.reduceEqDiff, Nat.reduceLeDiff, Nat.reduceLT, reduceCtorEq, Nat.succ_eq_add_one]) (by simp only [go_sem, reduceIte, Nat.reduceAdd, Nat.reduceMul, Nat.reduceSub, Nat.reduceEqDiff, Nat.reduceLeDiff, Nat.reduceLT, reduceCtorEq, Nat.succ_eq_add_one]) (by simp only [rv, rvL, go_sem, reduceIte, Nat.reduceAdd, Nat.reduceMul, Nat.reduceSub, Nat.reduceEqDiff, Nat.reduceLeDiff, Nat.reduceLT, reduceCtorEq, Nat.succ_eq_add_one]; try simp))
      rw [List.take_succ_eq_append_getElem e1] at hm
      rcases List.mem_append.1 hm with h | h
      · exact j.2.2 m h
      · simp at h; subst h; exact h2
  · have e1 : j.1 = ms.length := by have := j.2.1; simp only [decide_eq_false_iff_not] at h1; omega
    have e2 := j.2.2
    rw [e1, List.take_length] at e2
    have e3 : ¬ pidx ep ms < ms.length := by
      unfold pidx
      intro h
      rw [List.findIdx_lt_length] at h
      obtain ⟨m, hm, hm2⟩ := h
      rw [e2 m hm] at hm2
      cases hm2
    rw [if_neg e3]
    exact Fin.eq1 _ rfl rfl rfl rfl rfl rfl rfl

theorem keep_take {ep : Int} {ms : List Msg} {j : Nat} (h : j < ms.length) : keep ep (ms.take (j + 1)) = if prg ep ms[j] then keep ep (ms.take j) else keep ep (ms.take j) ++ [ms[j]] := by
  unfold keep
  rw [List.take_succ_eq_append_getElem h, List.filter_append]
  cases hp : prg ep ms[j] <;> simp [hp]
theorem keep_len (ep : Int) (ms : List Msg) (j : Nat) : (keep ep (ms.take j)).length ≤ j := by
  have := List.length_filter_le (fun m => !prg ep m) (ms.take j)
  simp only [List.length_take] at this
  unfold keep
  omega
theorem keep_none {ep : Int} {ms : List Msg} (h : ¬ pidx ep ms < ms.length) : keep ep ms = ms := by
  unfold keep
  rw [List.filter_eq_self]
  intro m hm
  cases hp : prg ep m with
  | false => rfl
  | true => exact absurd (List.findIdx_lt_length.2 ⟨m, hm, hp⟩) h
theorem keep_pidx {ep : Int} {ms : List Msg} (h : pidx ep ms < ms.length) : keep ep (ms.take (pidx ep ms + 1)) = ms.take (pidx ep ms) := by
  have h1 := List.findIdx_eq (p := prg ep) h
  have h2 := h1.1 rfl
  rw [keep_take h, if_pos h2.1]
  unfold keep
  rw [List.filter_eq_self]
  intro m hm
  rw [List.mem_take_iff_getElem] at hm
  obtain ⟨k, hk, rfl⟩ := hm
  rw [h2.2 k (by omega)]
  rfl

structure DelP (ep : Int) (ms : List Msg) where
  j : Nat
  rows : List (List AV)
  hj : j ≤ ms.length
  len : rows.length = ms.length
  pre : rows.take (keep ep (ms.take j)).length = encM (keep ep (ms.take j))
  suf : rows.drop j = encM (ms.drop j)
  lt : (keep ep (ms.take j)).length < j
  l7 : ∀ r ∈ rows, r.length = 7
theorem fn80 (ms : List Msg) (ep : Int) (hl : ms.length ≤ 10000) : FnG Try.prog 80 [.own 4 7 0 ms.length, .fn 82 [.ptr 0 0]] [[I ep]] [.row 44 7 (encM ms)] (slM (keep ep ms)) [[I ep]] [] := by
  refine FnG.of_go ok80 (by simp) ?_
  unfold s80
  simp only [Int.cast_ofNat_Int, Int.reduceBEq, Int.reduceLT, Int.reduceLE, Int.reduceSub, Int.reduceAdd, Int.reduceNeg, Int.reduceEq, Int.reduceToNat, decide_true, decide_false, decide_eq_true_eq, beq_self_eq_true, bne_self_eq_false, List.reduceReplicate, List.length_set, List.length_replicate, List.length_cons, List.length_nil, List.set_cons_zero, List.set_cons_succ, Int.toNat_natCast, go_sem, reduceIte, Nat.reduceAdd, Nat.reduceMul, Nat.reduceSub, Nat.reduceEqDiff, Nat.reduceLeDiff, Nat.reduceLT, reduceCtorEq, Nat.succ_eq_add_one]
  refine goCallGS (fn110 ms ep hl) [0] (I (if pidx ep ms < ms.length then (pidx ep ms : Int) else -1)) [[I ep]] (by simp [rvL, rv, inS, get, encM_len, encM_takeL]) (by simp [boxG, rvL, rv, get]) rfl (by simp [outBN, rvL, rv, naL, na]) rfl (by simp [rv]) ?_
  simp only [obsFrom, boxesAt, Int.cast_ofNat_Int, Int.reduceBEq, Int.reduceLT, Int.reduceLE, Int.reduceSub, Int.reduceAdd, Int.reduceNeg, Int.reduceEq, Int.reduceToNat, decide_true, decide_false, decide_eq_true_eq, beq_self_eq_true, bne_self_eq_false, List.reduceReplicate, List.length_set, List.length_replicate, List.length_cons, List.length_nil, List.set_cons_zero, List.set_cons_succ, Int.toNat_natCast, go_sem, reduceIte, Nat.reduceAdd, Nat.reduceMul, Nat.reduceSub, Nat.reduceEqDiff, Nat.reduceLeDiff, Nat.reduceLT, reduceCtorEq, Nat.succ_eq_add_one]
  by_cases hp : pidx ep ms < ms.length
  · rw [if_pos hp]
    have e1 : ((pidx ep ms : Int) == -1) = false := by simp
    simp only [e1, w64_succ (show pidx ep ms ≤ 100000 by omega), Int.cast_ofNat_Int, Int.reduceBEq, Int.reduceLT, Int.reduceLE, Int.reduceSub, Int.reduceAdd, Int.reduceNeg, Int.reduceEq, Int.reduceToNat, decide_true, decide_false, decide_eq_true_eq, beq_self_eq_true, bne_self_eq_false, List.reduceReplicate, List.length_set, List.length_replicate, List.length_cons, List.length_nil, List.set_cons_zero, List.set_cons_succ, Int.toNat_natCast, go_sem, reduceIte, Nat.reduceAdd, Nat.reduceMul, Nat.reduceSub, Nat.reduceEqDiff, Nat.reduceLeDiff, Nat.reduceLT, reduceCtorEq, Nat.succ_eq_add_one]
    have hk := keep_pidx hp
    refine go_loop (fun q : DelP ep ms => ⟨1000, [(0, .own 4 7 0 ms.length), (1, .fn 82 [.ptr 0 0]), (5, I (keep ep (ms.take q.j)).length), (6, I q.j)], [(0, .box [I ep]), (4, .row 44 7 q.rows)]⟩) (fun q => ms.length - q.j)
      ⟨pidx ep ms + 1, encM ms, hp, encM_len ms, by rw [hk, encM_take]; simp only [List.length_take, Nat.min_eq_left (Nat.le_of_lt hp)], by rw [encM_drop], by rw [hk]; simp only [List.length_take]; omega, fun r hr => by obtain ⟨m, _, rfl⟩ := List.mem_map.1 hr; rfl⟩
      (Wk.mk [(0, 0), (4, 4)] [] rfl rfl (by simp only [rvH, rvO, rvL, rv, go_sem, reduceIte, Nat.reduceAdd, Nat.reduceMul, Nat.reduceSub, Nat.reduceEqDiff, Nat.reduceLeDiff, Nat.reduceLT, reduceCtorEq, Nat.succ_eq_add_one]) (by simp only [go_sem, reduceIte, Nat.reduceAdd, Nat.reduceMul, Nat.reduceSub, Nat.reduceEqDiff, Nat.reduceLeDiff, Nat.reduceLT, reduceCtorEq, Nat.succ_eq_add_one]) (by simp only [rv, rvL, hk, List.length_take, Nat.min_eq_left (Nat.le_of_lt hp), Int.cast_ofNat_Int, Int.reduceBEq, Int.reduceLT, Int.reduceLE, Int.reduceSub, Int.reduceAdd, Int.reduceNeg, Int.reduceEq, Int.reduceToNat, decide_true, decide_false, decide_eq_true_eq, beq_self_eq_true, bne_self_eq_false, List.reduceReplicate, List.length_set, List.length_replicate, List.length_cons, List.length_nil, List.set_cons_zero, List.set_cons_succ, Int.toNat_natCast, go_sem, reduceIte, Nat.reduceAdd, Nat.reduceMul, Nat.reduceSub, Nat.reduceEqDiff, Nat.reduceLeDiff, Nat.reduceLT, reduceCtorEq, Nat.succ_eq_add_one]; try simp)) ?_
    intro q B hB
    have hj := q.hj
    have hlen := q.len
    have hlt := q.lt
    simp only [go_sem, reduceIte, Nat.reduceAdd, Nat.reduceMul, Nat.reduceSub, Nat.reduceEqDiff, Nat.reduceLeDiff, Nat.reduceLT, reduceCtorEq, Nat.succ_eq_add_one]
    refine goIf_split (fun h1 => ?_) (fun h1 => ?_) <;> simp only [h1, go_sem, reduceIte, Nat.reduceAdd, Nat.reduceMul, Nat.reduceSub, Nat.reduceEqDiff, Nat.reduceLeDiff, Nat.reduceLT, reduceCtorEq, Nat.succ_eq_add_one]
    · have e2 : q.j < ms.length := by simp only [decide_eq_true_eq] at h1; omega
      have hn : nth q.rows q.j = ms[q.j].enc := by
        have h3 : nth (encM (ms.drop q.j)) 0 = ms[q.j].enc := by rw [encM_nth (by simp; omega)]; simp
        rw [← h3, ← q.suf]
        simp [nth, List.getElem?_drop]
      have hdrop : q.rows.drop (q.j + 1) = encM (ms.drop (q.j + 1)) := by rw [← List.drop_drop, q.suf, encM_drop, List.drop_drop]
      have hkt := keep_take (ep := ep) e2
      simp only [Int.toNat_natCast, Nat.zero_add, hn, Int.cast_ofNat_Int, Int.reduceBEq, Int.reduceLT, Int.reduceLE, Int.reduceSub, Int.reduceAdd, Int.reduceNeg, Int.reduceEq, Int.reduceToNat, decide_true, decide_false, decide_eq_true_eq, beq_self_eq_true, bne_self_eq_false, List.reduceReplicate, List.length_set, List.length_replicate, List.length_cons, List.length_nil, List.set_cons_zero, List.set_cons_succ, Int.toNat_natCast, go_sem, reduceIte, Nat.reduceAdd, Nat.reduceMul, Nat.reduceSub, Nat.reduceEqDiff, Nat.reduceLeDiff, Nat.reduceLT, reduceCtorEq, Nat.succ_eq_add_one]
      refine ⟨⟨by omega, by omega⟩, by omega, ?_⟩
      refine goCall1 (b := 0) (fn82 _ ep) ⟨⟨rfl, rfl⟩, rfl, trivial⟩ rfl rfl rfl rfl ?_
      simp only [Int.cast_ofNat_Int, Int.reduceBEq, Int.reduceLT, Int.reduceLE, Int.reduceSub, Int.reduceAdd, Int.reduceNeg, Int.reduceEq, Int.reduceToNat, decide_true, decide_false, decide_eq_true_eq, beq_self_eq_true, bne_self_eq_false, List.reduceReplicate, List.length_set, List.length_replicate, List.length_cons, List.length_nil, List.set_cons_zero, List.set_cons_succ, Int.toNat_natCast, go_sem, reduceIte, Nat.reduceAdd, Nat.reduceMul, Nat.reduceSub, Nat.reduceEqDiff, Nat.reduceLeDiff, Nat.reduceLT, reduceCtorEq, Nat.succ_eq_add_one]
      cases hpr : prg ep ms[q.j] with
      | true =>
        have h4 : decide (ms[q.j].epoch < ep) = true := hpr
        rw [hpr, if_pos rfl] at hkt
        simp only [h4, w64_succ (show q.j ≤ 100000 by omega), Int.cast_ofNat_Int, Int.reduceBEq, Int.reduceLT, Int.reduceLE, Int.reduceSub, Int.reduceAdd, Int.reduceNeg, Int.reduceEq, Int.reduceToNat, decide_true, decide_false, decide_eq_true_eq, beq_self_eq_true, bne_self_eq_false, List.reduceReplicate, List.length_set, List.length_replicate, List.length_cons, List.length_nil, List.set_cons_zero, List.set_cons_succ, Int.toNat_natCast, go_sem, reduceIte, Nat.reduceAdd, Nat.reduceMul, Nat.reduceSub, Nat.reduceEqDiff, Nat.reduceLeDiff, Nat.reduceLT, reduceCtorEq, Nat.succ_eq_add_one]
        exact hB _ ⟨q.j + 1, q.rows, e2, hlen, by rw [hkt]; exact q.pre, hdrop, by rw [hkt]; omega, q.l7⟩ (by simp only; omega) (Wk.mk [(0, 0), (4, 4)] [] rfl rfl (by simp only [rvH, rvO, rvL, rv, go_sem, reduceIte, Nat.reduceAdd, Nat.reduceMul, Nat.reduceSub, Nat.reduceEqDiff, Nat.reduceLeDiff, Nat.reduceLT, reduceCtorEq, Nat.succ_eq_add_one]) (by simp only [go_sem, reduceIte, Nat.reduceAdd, Nat.reduceMul, Nat.reduceSub, Nat.reduceEqDiff, Nat.reduceLeDiff, Nat.reduceLT, reduceCtorEq, Nat.succ_eq_add_one]) (by simp only [rv, rvL, hkt, go_sem, reduceIte, Nat.reduceAdd, Nat.reduceMul, Nat.reduceSub, Nat.reduceEqDiff, Nat.reduceLeDiff, Nat.reduceLT, reduceCtorEq, Nat.succ_eq_add_one]; try simp))
      | false =>
        have h4 : decide (ms[q.j].epoch < ep) = false := hpr
        rw [hpr, if_neg (by simp)] at hkt
        have hi7 : (nth q.rows (keep ep (ms.take q.j)).length).drop 7 = [] := by
          have h5 : (keep ep (ms.take q.j)).length < q.rows.length := by omega
          have : nth q.rows (keep ep (ms.take q.j)).length = q.rows[(keep ep (ms.take q.j)).length] := by simp [nth, h5]
          rw [this]
          exact List.drop_of_length_le (by rw [q.l7 _ (List.getElem_mem h5)]; exact Nat.le_refl _)
        have hl1 : (keep ep (ms.take (q.j + 1))).length = (keep ep (ms.take q.j)).length + 1 := by rw [hkt]; simp
        simp only [h4, Int.toNat_natCast, Nat.zero_add, hi7, w64_succ (show q.j ≤ 100000 by omega), w64_succ (show (keep ep (ms.take q.j)).length ≤ 100000 by omega), Int.cast_ofNat_Int, Int.reduceBEq, Int.reduceLT, Int.reduceLE, Int.reduceSub, Int.reduceAdd, Int.reduceNeg, Int.reduceEq, Int.reduceToNat, decide_true, decide_false, decide_eq_true_eq, beq_self_eq_true, bne_self_eq_false, List.reduceReplicate, List.length_set, List.length_replicate, List.length_cons, List.length_nil, List.set_cons_zero, List.set_cons_succ, Int.toNat_natCast, go_sem, reduceIte, Nat.reduceAdd, Nat.reduceMul, Nat.reduceSub, Nat.reduceEqDiff, Nat.reduceLeDiff, Nat.reduceLT, reduceCtorEq, Nat.succ_eq_add_one]
        refine ⟨⟨by omega, by omega⟩, by omega, hB _ ⟨q.j + 1, q.rows.set (keep ep (ms.take q.j)).length ms[q.j].enc, e2, by rw [List.length_set]; exact hlen, ?_, ?_, by rw [hl1]; omega, fun r hr => ?_⟩ (by simp only; omega) (Wk.mk [(0, 0), (4, 4)] [] rfl rfl (by simp only [rvH, rvO, rvL, rv, go_sem, reduceIte, Nat.reduceAdd, Nat.reduceMul, Nat.reduceSub, Nat.reduceEqDiff, Nat.reduceLeDiff, Nat.reduceLT, reduceCtorEq, Nat.succ_eq_add_one]) (by simp only [go_sem, reduceIte, Nat.reduceAdd, Nat.reduceMul, Nat.reduceSub, Nat.reduceEqDiff, Nat.reduceLeDiff, Nat.reduceLT, reduceCtorEq, Nat.succ_eq_add_one]) (by simp only [rv, rvL, hl1, go_sem, reduceIte, Nat.reduceAdd, Nat.reduceMul, Nat.reduceSub, Nat.reduceEqDiff, Nat.reduceLeDiff, Nat.reduceLT, reduceCtorEq, Nat.succ_eq_add_one]; try simp))⟩
        · rw [hl1, hkt, encM_app, ← q.pre, encM_one]
          have h5 : (keep ep (ms.take q.j)).length < (q.rows.set (keep ep (ms.take q.j)).length ms[q.j].enc).length := by rw [List.length_set]; omega
          rw [List.take_succ_eq_append_getElem h5, List.getElem_set_self, List.take_set_of_le (Nat.le_refl _)]
        · rw [List.drop_set_of_lt (by omega), hdrop]
        · rcases List.mem_or_eq_of_mem_set hr with h | h
          · exact q.l7 r h
          · rw [h]; rfl
    · have e2 : q.j = ms.length := by simp only [decide_eq_false_iff_not] at h1; omega
      have hpre := q.pre
      rw [e2, List.take_length] at hpre hlt
      simp only [e2, List.take_length, Int.toNat_natCast, Nat.zero_add, Int.cast_ofNat_Int, Int.reduceBEq, Int.reduceLT, Int.reduceLE, Int.reduceSub, Int.reduceAdd, Int.reduceNeg, Int.reduceEq, Int.reduceToNat, decide_true, decide_false, decide_eq_true_eq, beq_self_eq_true, bne_self_eq_false, List.reduceReplicate, List.length_set, List.length_replicate, List.length_cons, List.length_nil, List.set_cons_zero, List.set_cons_succ, Int.toNat_natCast, go_sem, reduceIte, Nat.reduceAdd, Nat.reduceMul, Nat.reduceSub, Nat.reduceEqDiff, Nat.reduceLeDiff, Nat.reduceLT, reduceCtorEq, Nat.succ_eq_add_one]
      have hkl : (q.rows.take (keep ep ms).length).length = (keep ep ms).length := by rw [List.length_take]; omega
      have e9 : ∀ X : List (List AV), (q.rows.take (keep ep ms).length ++ X).take (keep ep ms).length = encM (keep ep ms) := fun X => by
        rw [List.take_append_of_le_length (by omega), List.take_take, Nat.min_self, hpre]
      refine ⟨⟨by omega, by omega, by omega⟩, by omega, ⟨by omega, by omega⟩, Fin.mk1 _ rfl rfl rfl (by simp [rvL, rv]) ?_⟩
      simp only [retOne, rv, get, e9, hkl, Nat.sub_zero, List.drop_zero, Nat.zero_add, List.length_append, Int.cast_ofNat_Int, Int.reduceBEq, Int.reduceLT, Int.reduceLE, Int.reduceSub, Int.reduceAdd, Int.reduceNeg, Int.reduceEq, Int.reduceToNat, decide_true, decide_false, decide_eq_true_eq, beq_self_eq_true, bne_self_eq_false, List.reduceReplicate, List.length_set, List.length_replicate, List.length_cons, List.length_nil, List.set_cons_zero, List.set_cons_succ, Int.toNat_natCast, go_sem, reduceIte, Nat.reduceAdd, Nat.reduceMul, Nat.reduceSub, Nat.reduceEqDiff, Nat.reduceLeDiff, Nat.reduceLT, reduceCtorEq, Nat.succ_eq_add_one]
      exact ⟨by simp, by omega⟩
  · rw [if_neg hp]
    have hk := keep_none hp
    rw [hk]
    simp only [Int.cast_ofNat_Int, Int.reduceBEq, Int.reduceLT, Int.reduceLE, Int.reduceSub, Int.reduceAdd, Int.reduceNeg, Int.reduceEq, Int.reduceToNat, decide_true, decide_false, decide_eq_true_eq, beq_self_eq_true, bne_self_eq_false, List.reduceReplicate, List.length_set, List.length_replicate, List.length_cons, List.length_nil, List.set_cons_zero, List.set_cons_succ, Int.toNat_natCast, go_sem, reduceIte, Nat.reduceAdd, Nat.reduceMul, Nat.reduceSub, Nat.reduceEqDiff, Nat.reduceLeDiff, Nat.reduceLT, reduceCtorEq, Nat.succ_eq_add_one]
    exact Fin.mk1 _ rfl rfl rfl (by simp [rvL, rv]) (by simp [retOne, rv, get, encM_takeL, encM_len])
end Go.Eng
