/-
  Walks and plain lemmas for ScriptTokens: what the functions named below compute, over the abstract states of the engine.
  No condition beyond those that each theorem states.
-/
import Derived.Test.YteonhcjaekodkaaMsg1
set_option linter.all false
set_option linter.unusedSimpArgs false
set_option maxRecDepth 20000
set_option maxHeartbeats 4000000
namespace Go.Eng
open Go Go.Proofs

def encM (ms : List Msg) : List (List AV) := ms.map Msg.enc
theorem encM_len (ms : List Msg) : (encM ms).length = ms.length := by simp [encM]
theorem encM_nth {ms : List Msg} {k : Nat} (h : k < ms.length) : nth (encM ms) k = ms[k].enc := by simp [encM, nth, h]
theorem enc_len (m : Msg) : m.enc.length = 7 := rfl
theorem enc_take (m : Msg) : m.enc.take 7 = m.enc := rfl
theorem enc_pure (m : Msg) : pureL m.enc = true := rfl
theorem enc_one (m : Msg) : oneL m.enc = true := rfl
theorem encA_pure (m : Msg) : (AV.agg m.enc).pure = true := rfl
theorem encM_app (xs ys : List Msg) : encM (xs ++ ys) = encM xs ++ encM ys := by simp [encM]
theorem encM_take (xs : List Msg) (k : Nat) : (encM xs).take k = encM (xs.take k) := by simp [encM, List.map_take]
theorem encM_drop (xs : List Msg) (k : Nat) : (encM xs).drop k = encM (xs.drop k) := by simp [encM, List.map_drop]
attribute [go_sem] encM_len enc_len enc_take enc_pure enc_one encA_pure
abbrev slM (ms : List Msg) : AV := .sl 7 (encM ms)
def ids (ms : List Msg) : List Int := ms.map Msg.id
theorem ids_len (ms : List Msg) : (ids ms).length = ms.length := by simp [ids]

theorem eqCells_same : ∀ m : Msg, eqCells [0, 0, 0, 0, 0, 0, 1] m.enc m.enc = some true := fun m => by
  simp [eqCells, Msg.enc]
attribute [go_sem] eqCells_same

/-- Same lists. -/
theorem fn23 (ms : List Msg) (hl : ms.length ≤ 100000) : Fn Try.prog 23 [slM ms, slM ms] [] (Bo true) [] [] := by
  refine Fn.of_go ok23 (by simp) ?_
  unfold s23
  simp only [bneI, go_sem, reduceIte, Nat.reduceAdd, Nat.reduceMul, Nat.reduceSub, Nat.reduceEqDiff, Nat.reduceLeDiff, Nat.reduceLT, reduceCtorEq, Nat.succ_eq_add_one]
  refine go_loop (fun j : {j : Nat // j ≤ ms.length} => ⟨1000, [(0, slM ms), (1, slM ms), (5, I j.1)], []⟩) (fun j => ms.length - j.1) ⟨0, by omega⟩ (Wk.mk [] [] rfl rfl (by simp only [go_sem, reduceIte, Nat.reduceAdd, Nat.reduceMul, Nat.reduceSub, Nat.reduceEqDiff, Nat.reduceLeDiff, Nat.reduceLT, reduceCtorEq, Nat.succ_eq_add_one]) (by simp only [go_sem, reduceIte, Nat.reduceAdd, Nat.reduceMul, Nat.reduceSub, Nat.reduceEqDiff, Nat.reduceLeDiff, Nat.reduceLT, reduceCtorEq, Nat.succ_eq_add_one]) (by simp only [rv, go_sem, reduceIte, Nat.reduceAdd, Nat.reduceMul, Nat.reduceSub, Nat.reduceEqDiff, Nat.reduceLeDiff, Nat.reduceLT, reduceCtorEq, Nat.succ_eq_add_one]; try rfl)) ?_
  intro j B hB
  simp only [go_sem, reduceIte, Nat.reduceAdd, Nat.reduceMul, Nat.reduceSub, Nat.reduceEqDiff, Nat.reduceLeDiff, Nat.reduceLT, reduceCtorEq, Nat.succ_eq_add_one]
  refine goIf_split (fun h1 => ?_) (fun h1 => ?_) <;> simp only [h1, go_sem, reduceIte, Nat.reduceAdd, Nat.reduceMul, Nat.reduceSub, Nat.reduceEqDiff, Nat.reduceLeDiff, Nat.reduceLT, reduceCtorEq, Nat.succ_eq_add_one]
  · have e1 : j.1 < ms.length := by simp only [decide_eq_true_eq] at h1; omega
    simp only [Int.toNat_natCast, encM_nth e1, w64_succ (show j.1 ≤ 100000 by omega), go_sem, reduceIte, Nat.reduceAdd, Nat.reduceMul, Nat.reduceSub, Nat.reduceEqDiff, Nat.reduceLeDiff, Nat.reduceLT, reduceCtorEq, Nat.succ_eq_add_one]
    have hq : 0 ≤ (j.1 : Int) ∧ (j.1 : Int) < (ms.length : Int) := ⟨by omega, by omega⟩
    exact ⟨hq, hq, rfl, hB _ ⟨j.1 + 1, e1⟩ (by simp only; omega) (Wk.mk [] [] rfl rfl (by simp only [go_sem, reduceIte, Nat.reduceAdd, Nat.reduceMul, Nat.reduceSub, Nat.reduceEqDiff, Nat.reduceLeDiff, Nat.reduceLT, reduceCtorEq, Nat.succ_eq_add_one]) (by simp only [go_sem, reduceIte, Nat.reduceAdd, Nat.reduceMul, Nat.reduceSub, Nat.reduceEqDiff, Nat.reduceLeDiff, Nat.reduceLT, reduceCtorEq, Nat.succ_eq_add_one]) (by simp only [rv, go_sem, reduceIte, Nat.reduceAdd, Nat.reduceMul, Nat.reduceSub, Nat.reduceEqDiff, Nat.reduceLeDiff, Nat.reduceLT, reduceCtorEq, Nat.succ_eq_add_one]))⟩
  · exact Fin.eq0 _ rfl rfl rfl rfl

/-- The first error of the messages. -/
def invL : List Msg → Int
  | [] => 0
  | m :: ms => if m.val ≠ 0 then m.val else invL ms
theorem invL_step {ms : List Msg} {k : Nat} (h : k < ms.length) (h0 : invL (ms.take k) = 0) : invL (ms.take (k + 1)) = ms[k].val ∧ (ms[k].val ≠ 0 → invL ms = ms[k].val) := by
  induction ms generalizing k with
  | nil => simp at h
  | cons m ms ih =>
    cases k with
    | zero => simp [invL]; exact ⟨fun h => h.symm, fun h1 h2 => absurd h2 h1⟩
    | succ k =>
      simp only [List.take_succ_cons, invL] at h0 ⊢
      by_cases hm : m.val ≠ 0
      · rw [if_pos hm] at h0; exact absurd h0 hm
      · rw [if_neg hm] at h0
        simp only [hm, if_false, List.getElem_cons_succ]
        exact ih (by simpa using h) h0

theorem fn71 (ms : List Msg) (hl : ms.length ≤ 100000) : Fn Try.prog 71 [slM ms] [] (I (invL ms)) [] [] := by
  refine Fn.of_go ok71 (by simp) ?_
  unfold s71
  simp only [go_sem, reduceIte, Nat.reduceAdd, Nat.reduceMul, Nat.reduceSub, Nat.reduceEqDiff, Nat.reduceLeDiff, Nat.reduceLT, reduceCtorEq, Nat.succ_eq_add_one]
  refine go_loop (fun j : {j : Nat // j ≤ ms.length ∧ invL (ms.take j) = 0} => ⟨1000, [(6, slM ms), (7, I ms.length), (8, I j.1)], []⟩) (fun j => ms.length - j.1) ⟨0, by omega, rfl⟩ (Wk.mk [] [] rfl rfl (by simp only [go_sem, reduceIte, Nat.reduceAdd, Nat.reduceMul, Nat.reduceSub, Nat.reduceEqDiff, Nat.reduceLeDiff, Nat.reduceLT, reduceCtorEq, Nat.succ_eq_add_one]) (by simp only [go_sem, reduceIte, Nat.reduceAdd, Nat.reduceMul, Nat.reduceSub, Nat.reduceEqDiff, Nat.reduceLeDiff, Nat.reduceLT, reduceCtorEq, Nat.succ_eq_add_one]) (by simp only [rv, go_sem, reduceIte, Nat.reduceAdd, Nat.reduceMul, Nat.reduceSub, Nat.reduceEqDiff, Nat.reduceLeDiff, Nat.reduceLT, reduceCtorEq, Nat.succ_eq_add_one]; try rfl)) ?_
  intro j B hB
  simp only [go_sem, reduceIte, Nat.reduceAdd, Nat.reduceMul, Nat.reduceSub, Nat.reduceEqDiff, Nat.reduceLeDiff, Nat.reduceLT, reduceCtorEq, Nat.succ_eq_add_one]
  refine goIf_split (fun h1 => ?_) (fun h1 => ?_) <;> simp only [h1, go_sem, reduceIte, Nat.reduceAdd, Nat.reduceMul, Nat.reduceSub, Nat.reduceEqDiff, Nat.reduceLeDiff, Nat.reduceLT, reduceCtorEq, Nat.succ_eq_add_one]
  · have e1 : j.1 < ms.length := by simp only [decide_eq_true_eq] at h1; omega
    have e2 := invL_step e1 j.2.2
    simp only [Int.toNat_natCast, encM_nth e1, go_sem, reduceIte, Nat.reduceAdd, Nat.reduceMul, Nat.reduceSub, Nat.reduceEqDiff, Nat.reduceLeDiff, Nat.reduceLT, reduceCtorEq, Nat.succ_eq_add_one]
    have hq : 0 ≤ (j.1 : Int) ∧ (j.1 : Int) < (ms.length : Int) := ⟨by omega, by omega⟩
    refine ⟨hq, ?_⟩
    refine goCall0 (fn109 _) rfl rfl ?_
    simp only [go_sem, reduceIte, Nat.reduceAdd, Nat.reduceMul, Nat.reduceSub, Nat.reduceEqDiff, Nat.reduceLeDiff, Nat.reduceLT, reduceCtorEq, Nat.succ_eq_add_one]
    refine goIf_split (fun h2 => ?_) (fun h2 => ?_) <;> simp only [h2, go_sem, reduceIte, Nat.reduceAdd, Nat.reduceMul, Nat.reduceSub, Nat.reduceEqDiff, Nat.reduceLeDiff, Nat.reduceLT, reduceCtorEq, Nat.succ_eq_add_one]
    · refine Fin.eq0 _ rfl rfl rfl ?_
      rw [e2.2 (by simpa using h2)]
      rfl
    · have e3 : ms[j.1].val = 0 := by simpa using h2
      simp only [w64_succ (show j.1 ≤ 100000 by omega), go_sem, reduceIte, Nat.reduceAdd, Nat.reduceMul, Nat.reduceSub, Nat.reduceEqDiff, Nat.reduceLeDiff, Nat.reduceLT, reduceCtorEq, Nat.succ_eq_add_one]
      exact hB _ ⟨j.1 + 1, e1, e2.1.trans e3⟩ (by simp only; omega) (Wk.mk [] [] rfl rfl (by simp only [go_sem, reduceIte, Nat.reduceAdd, Nat.reduceMul, Nat.reduceSub, Nat.reduceEqDiff, Nat.reduceLeDiff, Nat.reduceLT, reduceCtorEq, Nat.succ_eq_add_one]) (by simp only [go_sem, reduceIte, Nat.reduceAdd, Nat.reduceMul, Nat.reduceSub, Nat.reduceEqDiff, Nat.reduceLeDiff, Nat.reduceLT, reduceCtorEq, Nat.succ_eq_add_one]) (by simp only [rv, go_sem, reduceIte, Nat.reduceAdd, Nat.reduceMul, Nat.reduceSub, Nat.reduceEqDiff, Nat.reduceLeDiff, Nat.reduceLT, reduceCtorEq, Nat.succ_eq_add_one]))
  · have e1 : j.1 = ms.length := by have := j.2.1; simp only [decide_eq_false_iff_not] at h1; omega
    have e2 := j.2.2
    rw [e1, List.take_length] at e2
    rw [e2]
    exact Fin.eq0 _ rfl rfl rfl rfl

/-- The ids that were met. -/
def seenE (xs : List Int) : List (Value × AV) := xs.map fun i => (.int .i64 i, Bo true)
theorem seen_look (n : Int) : ∀ xs : List Int, lookM (seenE xs) .i64 n = some (if n ∈ xs then some (Bo true) else none)
  | [] => rfl
  | x :: xs => by
    have ih := seen_look n xs
    simp only [seenE, List.map_cons, lookM, if_true, List.mem_cons] at ih ⊢
    by_cases e : n = x
    · rw [if_pos e, if_pos (.inl e)]
    · rw [if_neg e, ih]
      by_cases h : n ∈ xs
      · rw [if_pos h, if_pos (.inr h)]
      · rw [if_neg h, if_neg (by simp [e, h])]
theorem seen_put (n : Int) : ∀ xs : List Int, n ∉ xs → putM (seenE xs) .i64 n (Bo true) = some (seenE (xs ++ [n]))
  | [], _ => rfl
  | x :: xs, h => by
    simp only [List.mem_cons, not_or] at h
    have ih := seen_put n xs h.2
    simp only [seenE, List.map_cons, List.cons_append, putM, if_true] at ih ⊢
    rw [if_neg h.1, ih]

def dup (ms : List Msg) : Bool := !decide ((ids ms).Nodup)

theorem take_succ_nodup {l : List Int} {k : Nat} (h : k < l.length) : (l.take (k + 1)).Nodup ↔ (l.take k).Nodup ∧ l[k] ∉ l.take k := by
  rw [List.take_succ_eq_append_getElem h, List.nodup_append]
  constructor
  · rintro ⟨h1, _, h3⟩
    exact ⟨h1, fun hm => h3 _ hm _ (by simp) rfl⟩
  · rintro ⟨h1, h2⟩
    refine ⟨h1, by simp, fun a ha b hb => ?_⟩
    simp only [List.mem_singleton] at hb
    subst hb
    intro e; subst e; exact h2 ha

theorem dup_true {ms : List Msg} {k : Nat} (h : k < (ids ms).length) (hm : (ids ms)[k] ∈ (ids ms).take k) : dup ms = true := by
  unfold dup
  simp only [Bool.not_eq_true', decide_eq_false_iff_not]
  intro hn
  have h1 : ((ids ms).take (k + 1)).Nodup := hn.sublist (List.take_sublist _ _)
  exact ((take_succ_nodup h).1 h1).2 hm

theorem fn73 (ms : List Msg) (hl : ms.length ≤ 100000) : Fn Try.prog 73 [slM ms] [] (Bo (dup ms)) [] [] := by
  refine Fn.of_go ok73 (by simp) ?_
  unfold s73
  simp only [go_sem, reduceIte, Nat.reduceAdd, Nat.reduceMul, Nat.reduceSub, Nat.reduceEqDiff, Nat.reduceLeDiff, Nat.reduceLT, reduceCtorEq, Nat.succ_eq_add_one]
  refine go_loop (fun j : {j : Nat // j ≤ ms.length ∧ ((ids ms).take j).Nodup} => ⟨1000, [(3, .mp 16), (7, slM ms), (8, I ms.length), (9, I j.1)], [(16, .map (seenE ((ids ms).take j.1)))]⟩) (fun j => ms.length - j.1) ⟨0, by omega, by simp⟩
    (Wk.mk [(16, 16)] [] rfl rfl (by simp only [rvH, rvO, rv, seenE, List.take_zero, List.map_nil, go_sem, reduceIte, Nat.reduceAdd, Nat.reduceMul, Nat.reduceSub, Nat.reduceEqDiff, Nat.reduceLeDiff, Nat.reduceLT, reduceCtorEq, Nat.succ_eq_add_one]) (by simp only [go_sem, reduceIte, Nat.reduceAdd, Nat.reduceMul, Nat.reduceSub, Nat.reduceEqDiff, Nat.reduceLeDiff, Nat.reduceLT, reduceCtorEq, Nat.succ_eq_add_one]) (by simp only [rv, go_sem, reduceIte, Nat.reduceAdd, Nat.reduceMul, Nat.reduceSub, Nat.reduceEqDiff, Nat.reduceLeDiff, Nat.reduceLT, reduceCtorEq, Nat.succ_eq_add_one]; try rfl)) ?_
  intro j B hB
  simp only [go_sem, reduceIte, Nat.reduceAdd, Nat.reduceMul, Nat.reduceSub, Nat.reduceEqDiff, Nat.reduceLeDiff, Nat.reduceLT, reduceCtorEq, Nat.succ_eq_add_one]
  refine goIf_split (fun h1 => ?_) (fun h1 => ?_) <;> simp only [h1, go_sem, reduceIte, Nat.reduceAdd, Nat.reduceMul, Nat.reduceSub, Nat.reduceEqDiff, Nat.reduceLeDiff, Nat.reduceLT, reduceCtorEq, Nat.succ_eq_add_one]
  · have e1 : j.1 < ms.length := by simp only [decide_eq_true_eq] at h1; omega
    have e2 : j.1 < (ids ms).length := by rw [ids_len]; exact e1
    have e3 : (ids ms)[j.1] = ms[j.1].id := by simp [ids]
    have hq : 0 ≤ (j.1 : Int) ∧ (j.1 : Int) < (ms.length : Int) := ⟨by omega, by omega⟩
    simp only [Int.toNat_natCast, encM_nth e1, Msg.enc, seen_look, go_sem, reduceIte, Nat.reduceAdd, Nat.reduceMul, Nat.reduceSub, Nat.reduceEqDiff, Nat.reduceLeDiff, Nat.reduceLT, reduceCtorEq, Nat.succ_eq_add_one]
    refine ⟨hq, ?_⟩
    by_cases h2 : ms[j.1].id ∈ (ids ms).take j.1
    · simp only [h2, if_true, Option.getD_some, go_sem, reduceIte, Nat.reduceAdd, Nat.reduceMul, Nat.reduceSub, Nat.reduceEqDiff, Nat.reduceLeDiff, Nat.reduceLT, reduceCtorEq, Nat.succ_eq_add_one]
      refine Fin.eq0 _ rfl rfl rfl ?_
      rw [dup_true e2 (by rw [e3]; exact h2)]
      rfl
    · simp only [h2, if_false, Option.getD_none, seen_put _ _ h2, w64_succ (show j.1 ≤ 100000 by omega), go_sem, reduceIte, Nat.reduceAdd, Nat.reduceMul, Nat.reduceSub, Nat.reduceEqDiff, Nat.reduceLeDiff, Nat.reduceLT, reduceCtorEq, Nat.succ_eq_add_one]
      have e4 : (ids ms).take j.1 ++ [ms[j.1].id] = (ids ms).take (j.1 + 1) := by rw [List.take_succ_eq_append_getElem e2, e3]
      refine hB _ ⟨j.1 + 1, e1, (take_succ_nodup e2).2 ⟨j.2.2, by rw [e3]; exact h2⟩⟩ (by simp only; omega) (Wk.mk [(16, 16)] [] rfl rfl (by simp only [rvH, rvO, e4, go_sem, reduceIte, Nat.reduceAdd, Nat.reduceMul, Nat.reduceSub, Nat.reduceEqDiff, Nat.reduceLeDiff, Nat.reduceLT, reduceCtorEq, Nat.succ_eq_add_one]) (by simp only [go_sem, reduceIte, Nat.reduceAdd, Nat.reduceMul, Nat.reduceSub, Nat.reduceEqDiff, Nat.reduceLeDiff, Nat.reduceLT, reduceCtorEq, Nat.succ_eq_add_one]) (by simp only [rv, go_sem, reduceIte, Nat.reduceAdd, Nat.reduceMul, Nat.reduceSub, Nat.reduceEqDiff, Nat.reduceLeDiff, Nat.reduceLT, reduceCtorEq, Nat.succ_eq_add_one]))
  · have e1 : j.1 = ms.length := by have := j.2.1; simp only [decide_eq_false_iff_not] at h1; omega
    have e2 := j.2.2
    rw [e1, List.take_of_length_le (by rw [ids_len]; omega)] at e2
    have e3 : dup ms = false := by simp [dup, e2]
    rw [e3]
    exact Fin.eq0 _ rfl rfl rfl rfl

/-- The first place of an id, or -1. -/
def idxV (ms : List Msg) (x : Int) : Int := if x ∈ ids ms then ((ids ms).idxOf x : Nat) else -1
theorem idx_at {l : List Int} {x : Int} {k : Nat} (h : k < l.length) (h0 : x ∉ l.take k) (h1 : l[k] = x) : x ∈ l ∧ l.idxOf x = k := by
  refine ⟨by rw [← h1]; exact List.getElem_mem h, ?_⟩
  have e : l = l.take k ++ x :: l.drop (k + 1) := by rw [← h1]; rw [List.getElem_cons_drop, List.take_append_drop]
  rw [e, List.idxOf_append, if_neg h0]
  simp only [List.idxOf_cons_self, Nat.add_zero, List.length_take]
  omega

theorem fn119 (ms : List Msg) (x : Int) (hl : ms.length ≤ 100000) : Fn Try.prog 119 [slM ms, I x] [] (I (idxV ms x)) [] [] := by
  refine Fn.of_go ok119 (by simp) ?_
  unfold s119
  simp only [go_sem, reduceIte, Nat.reduceAdd, Nat.reduceMul, Nat.reduceSub, Nat.reduceEqDiff, Nat.reduceLeDiff, Nat.reduceLT, reduceCtorEq, Nat.succ_eq_add_one]
  refine go_loop (fun j : {j : Nat // j ≤ ms.length ∧ x ∉ (ids ms).take j} => ⟨1000, [(0, slM ms), (1, I x), (5, I j.1)], []⟩) (fun j => ms.length - j.1) ⟨0, by omega, by simp⟩
    (Wk.mk [] [] rfl rfl (by simp only [go_sem, reduceIte, Nat.reduceAdd, Nat.reduceMul, Nat.reduceSub, Nat.reduceEqDiff, Nat.reduceLeDiff, Nat.reduceLT, reduceCtorEq, Nat.succ_eq_add_one]) (by simp only [go_sem, reduceIte, Nat.reduceAdd, Nat.reduceMul, Nat.reduceSub, Nat.reduceEqDiff, Nat.reduceLeDiff, Nat.reduceLT, reduceCtorEq, Nat.succ_eq_add_one]) (by simp only [rv, go_sem, reduceIte, Nat.reduceAdd, Nat.reduceMul, Nat.reduceSub, Nat.reduceEqDiff, Nat.reduceLeDiff, Nat.reduceLT, reduceCtorEq, Nat.succ_eq_add_one]; try rfl)) ?_
  intro j B hB
  simp only [go_sem, reduceIte, Nat.reduceAdd, Nat.reduceMul, Nat.reduceSub, Nat.reduceEqDiff, Nat.reduceLeDiff, Nat.reduceLT, reduceCtorEq, Nat.succ_eq_add_one]
  refine goIf_split (fun h1 => ?_) (fun h1 => ?_) <;> simp only [h1, go_sem, reduceIte, Nat.reduceAdd, Nat.reduceMul, Nat.reduceSub, Nat.reduceEqDiff, Nat.reduceLeDiff, Nat.reduceLT, reduceCtorEq, Nat.succ_eq_add_one]
  · have e1 : j.1 < ms.length := by simp only [decide_eq_true_eq] at h1; omega
    have e2 : j.1 < (ids ms).length := by rw [ids_len]; exact e1
    have e3 : (ids ms)[j.1] = ms[j.1].id := by simp [ids]
    have hq : 0 ≤ (j.1 : Int) ∧ (j.1 : Int) < (ms.length : Int) := ⟨by omega, by omega⟩
    simp only [Int.toNat_natCast, encM_nth e1, Msg.enc, go_sem, reduceIte, Nat.reduceAdd, Nat.reduceMul, Nat.reduceSub, Nat.reduceEqDiff, Nat.reduceLeDiff, Nat.reduceLT, reduceCtorEq, Nat.succ_eq_add_one]
    refine ⟨hq, goIf_split (fun h2 => ?_) (fun h2 => ?_)⟩ <;> simp only [h2, go_sem, reduceIte, Nat.reduceAdd, Nat.reduceMul, Nat.reduceSub, Nat.reduceEqDiff, Nat.reduceLeDiff, Nat.reduceLT, reduceCtorEq, Nat.succ_eq_add_one]
    · have e4 := idx_at e2 j.2.2 (e3.trans (by simpa using h2))
      refine Fin.eq0 _ rfl rfl rfl ?_
      simp only [retOne, idxV, e4.1, e4.2, if_true]
    · have e4 : ms[j.1].id ≠ x := by simpa using h2
      simp only [w64_succ (show j.1 ≤ 100000 by omega), go_sem, reduceIte, Nat.reduceAdd, Nat.reduceMul, Nat.reduceSub, Nat.reduceEqDiff, Nat.reduceLeDiff, Nat.reduceLT, reduceCtorEq, Nat.succ_eq_add_one]
      refine hB _ ⟨j.1 + 1, e1, ?_⟩ (by simp only; omega) (Wk.mk [] [] rfl rfl (by simp only [go_sem, reduceIte, Nat.reduceAdd, Nat.reduceMul, Nat.reduceSub, Nat.reduceEqDiff, Nat.reduceLeDiff, Nat.reduceLT, reduceCtorEq, Nat.succ_eq_add_one]) (by simp only [go_sem, reduceIte, Nat.reduceAdd, Nat.reduceMul, Nat.reduceSub, Nat.reduceEqDiff, Nat.reduceLeDiff, Nat.reduceLT, reduceCtorEq, Nat.succ_eq_add_one]) (by simp only [rv, go_sem, reduceIte, Nat.reduceAdd, Nat.reduceMul, Nat.reduceSub, Nat.reduceEqDiff, Nat.reduceLeDiff, Nat.reduceLT, reduceCtorEq, Nat.succ_eq_add_one]))
      rw [List.take_succ_eq_append_getElem e2, e3]
      simp only [List.mem_append, List.mem_singleton, not_or]
      exact ⟨j.2.2, fun h => e4 h.symm⟩
  · have e1 : j.1 = ms.length := by have := j.2.1; simp only [decide_eq_false_iff_not] at h1; omega
    have e2 := j.2.2
    rw [e1, List.take_of_length_le (by rw [ids_len]; omega)] at e2
    refine Fin.eq0 _ rfl rfl rfl ?_
    simp only [retOne, idxV, e2, if_false]
end Go.Eng
