/-
  Walks and plain lemmas for RingBuilt: what the functions named below compute, over the abstract states of the engine.
  No condition beyond those that each theorem states.
-/
import Derived.Test.YteonhcjaekodkaaRng4
set_option linter.all false
set_option linter.unusedSimpArgs false
set_option maxRecDepth 20000
set_option maxHeartbeats 4000000
namespace Go.Eng
open Go Go.Proofs

theorem wth_nth {n h i : Nat} (f : Nat → Msg) (hi : i < n) (hh : h < n) : nth (encM (wth n h f)) ((h + i) % n) = (f i).enc := by
  have hlt : (h + i) % n < (wth n h f).length := by rw [wth_len]; exact Nat.mod_lt _ (by omega)
  rw [encM_nth hlt, ← gt_in hlt, wth_cell f hi hh]
def mvF (l : List Msg) (a i k : Nat) : Msg := if a ≤ k ∧ k < i then gt l (k + 1) else gt l k
theorem mvF_step {n h a i : Nat} (l : List Msg) (hi : i < n) (hh : h < n) (ha : a ≤ i) : (wth n h (mvF l a i)).set ((h + i) % n) (gt l (i + 1)) = wth n h (mvF l a (i + 1)) := by
  rw [wth_set _ _ hi hh]
  refine wth_congr fun k hk => ?_
  unfold mvF
  by_cases e : k = i
  · subst e; simp [ha]
  · rw [if_neg e]
    by_cases e2 : a ≤ k ∧ k < i
    · rw [if_pos e2, if_pos ⟨e2.1, by omega⟩]
    · rw [if_neg e2, if_neg (by omega)]
theorem mvF_zero (n h a : Nat) (l : List Msg) : wth n h (mvF l a a) = rcs n h l := wth_congr fun k hk => by unfold mvF; rw [if_neg (by omega)]
theorem gt_erase {l : List Msg} {a k : Nat} : gt (l.eraseIdx a) k = if k < a then gt l k else gt l (k + 1) := by
  simp only [gt, List.getElem?_eraseIdx]
  split <;> rfl
theorem mvF_end {n h a : Nat} {l : List Msg} (hl : l.length ≤ n) (hh : h < n) (ha : a < l.length) : (wth n h (mvF l a (l.length - 1))).set ((h + (l.length - 1)) % n) zM = rcs n h (l.eraseIdx a) := by
  rw [wth_set _ _ (by omega) hh]
  refine wth_congr fun k hk => ?_
  rw [gt_erase]
  by_cases e : k = l.length - 1
  · rw [if_pos e, if_neg (by omega), gt_out (by omega)]
  · rw [if_neg e]
    unfold mvF
    by_cases e1 : k < a
    · rw [if_neg (by omega), if_pos e1]
    · rw [if_neg e1]
      by_cases e2 : k < l.length - 1
      · rw [if_pos ⟨by omega, e2⟩]
      · rw [if_neg (by omega), gt_out (by omega), gt_out (by omega)]
theorem encM_takeW (n h : Nat) (f : Nat → Msg) : (encM (wth n h f)).take n = encM (wth n h f) := by have := encM_takeL (wth n h f); rwa [wth_len] at this
attribute [go_sem] encM_takeW wth_len

abbrev Z' : AV := .v (.int .i64 0)
/-- The message at a place is taken out. -/
theorem fn65 (n h a : Nat) (l : List Msg) (rg : Rg n h l) (ha : a < l.length) : Fn Try.prog 65 [ringC n h l, I a] [] (.tup [ringC n h (l.eraseIdx a), .agg (gt l a).enc]) [] [] := by
  refine Fn.of_go ok65 (by simp) ?_
  unfold s65
  have := rg.n1; have := rg.n2; have := rg.hh; have := rg.ll
  simp only [Int.cast_ofNat_Int, Int.reduceBEq, Int.reduceLT, Int.reduceLE, Int.reduceSub, Int.reduceAdd, Int.reduceNeg, Int.reduceEq, Int.reduceToNat, decide_true, decide_false, decide_eq_true_eq, beq_self_eq_true, bne_self_eq_false, List.reduceReplicate, List.length_set, List.length_replicate, List.length_cons, List.length_nil, List.set_cons_zero, List.set_cons_succ, Int.toNat_natCast, go_sem, reduceIte, Nat.reduceAdd, Nat.reduceMul, Nat.reduceSub, Nat.reduceEqDiff, Nat.reduceLeDiff, Nat.reduceLT, reduceCtorEq, Nat.succ_eq_add_one]
  refine goCallE (fn77 (rcs n h l) h l.length (by rw [rcs_len]; omega) (by rw [rcs_len]; omega)) rfl rfl (by simp) (by simp [expA, expL]) ?_
  simp only [obsFrom, sh, shL, Int.cast_ofNat_Int, Int.reduceBEq, Int.reduceLT, Int.reduceLE, Int.reduceSub, Int.reduceAdd, Int.reduceNeg, Int.reduceEq, Int.reduceToNat, decide_true, decide_false, decide_eq_true_eq, beq_self_eq_true, bne_self_eq_false, List.reduceReplicate, List.length_set, List.length_replicate, List.length_cons, List.length_nil, List.set_cons_zero, List.set_cons_succ, Int.toNat_natCast, go_sem, reduceIte, Nat.reduceAdd, Nat.reduceMul, Nat.reduceSub, Nat.reduceEqDiff, Nat.reduceLeDiff, Nat.reduceLT, reduceCtorEq, Nat.succ_eq_add_one]
  refine goCallDS0 (fn78 (rcs n h l) h a l.length (by omega) (by omega) (by rw [rcs_len]; omega)) (by simp [rvL, rv, get, encM_takeR, rcs_len, encM_len]) rfl rfl ?_
  have hc : (h + a) % n < n := Nat.mod_lt _ (by omega)
  simp only [rcs_nth l (show a < n by omega) rg.hh, Int.cast_ofNat_Int, Int.reduceBEq, Int.reduceLT, Int.reduceLE, Int.reduceSub, Int.reduceAdd, Int.reduceNeg, Int.reduceEq, Int.reduceToNat, decide_true, decide_false, decide_eq_true_eq, beq_self_eq_true, bne_self_eq_false, List.reduceReplicate, List.length_set, List.length_replicate, List.length_cons, List.length_nil, List.set_cons_zero, List.set_cons_succ, Int.toNat_natCast, go_sem, reduceIte, Nat.reduceAdd, Nat.reduceMul, Nat.reduceSub, Nat.reduceEqDiff, Nat.reduceLeDiff, Nat.reduceLT, reduceCtorEq, Nat.succ_eq_add_one]
  refine ⟨⟨by omega, by omega⟩, hc, rfl, ?_⟩
  refine go_loop (fun i : {i : Nat // a ≤ i ∧ i ≤ l.length - 1} => ⟨1000, [(2, .ptr 8 0), (4, .ptr 16 0), (5, .ptr 24 0), (6, .ptr 112 0), (7, I i.1)],
      [(8, .box [.own 40 7 0 n, I h, I l.length]), (16, .box [Nl, Z, Z]), (24, .box [Z, Z, Z, Z, Z, Z, .v (.string ⟨#[]⟩)]), (112, .box (gt l a).enc), (40, .row 44 7 (encM (wth n h (mvF l a i.1))))]⟩) (fun i => l.length - i.1) ⟨a, by omega, by omega⟩
    (Wk.mk [(8, 8), (16, 16), (24, 24), (112, 112), (40, 40)] [] rfl rfl (by simp only [rvH, rvO, rvL, rv, mvF_zero, go_sem, reduceIte, Nat.reduceAdd, Nat.reduceMul, Nat.reduceSub, Nat.reduceEqDiff, Nat.reduceLeDiff, Nat.reduceLT, reduceCtorEq, Nat.succ_eq_add_one]) (by simp only [go_sem, reduceIte, Nat.reduceAdd, Nat.reduceMul, Nat.reduceSub, Nat.reduceEqDiff, Nat.reduceLeDiff, Nat.reduceLT, reduceCtorEq, Nat.succ_eq_add_one]) (by simp only [rv, Int.cast_ofNat_Int, Int.reduceBEq, Int.reduceLT, Int.reduceLE, Int.reduceSub, Int.reduceAdd, Int.reduceNeg, Int.reduceEq, Int.reduceToNat, decide_true, decide_false, decide_eq_true_eq, beq_self_eq_true, bne_self_eq_false, List.reduceReplicate, List.length_set, List.length_replicate, List.length_cons, List.length_nil, List.set_cons_zero, List.set_cons_succ, Int.toNat_natCast, go_sem, reduceIte, Nat.reduceAdd, Nat.reduceMul, Nat.reduceSub, Nat.reduceEqDiff, Nat.reduceLeDiff, Nat.reduceLT, reduceCtorEq, Nat.succ_eq_add_one])) ?_
  intro i B hB
  have hi := i.2
  have e1 : IntKind.i64.wrap ((l.length : Int) - 1) = ((l.length - 1 : Nat) : Int) := by rw [w64 (by omega)]; omega
  simp only [e1, go_sem, reduceIte, Nat.reduceAdd, Nat.reduceMul, Nat.reduceSub, Nat.reduceEqDiff, Nat.reduceLeDiff, Nat.reduceLT, reduceCtorEq, Nat.succ_eq_add_one]
  refine goIf_split (fun h4 => ?_) (fun h4 => ?_) <;> simp only [h4, e1, go_sem, reduceIte, Nat.reduceAdd, Nat.reduceMul, Nat.reduceSub, Nat.reduceEqDiff, Nat.reduceLeDiff, Nat.reduceLT, reduceCtorEq, Nat.succ_eq_add_one]
  · have e2 : i.1 < l.length - 1 := by simp only [decide_eq_true_eq] at h4; omega
    have hW := fn78 (wth n h (mvF l a i.1)) h i.1 l.length (by omega) (by omega) (by rw [wth_len]; omega)
    have hW2 := fn78 (wth n h (mvF l a i.1)) h (i.1 + 1) l.length (by omega) (by omega) (by rw [wth_len]; omega)
    rw [wth_len] at hW hW2
    refine goCallDS0 hW (by simp [rvL, rv, get, encM_takeW, wth_len, encM_len]) rfl rfl ?_
    simp only [w64_succ (show i.1 ≤ 100000 by omega), Int.cast_ofNat_Int, Int.reduceBEq, Int.reduceLT, Int.reduceLE, Int.reduceSub, Int.reduceAdd, Int.reduceNeg, Int.reduceEq, Int.reduceToNat, decide_true, decide_false, decide_eq_true_eq, beq_self_eq_true, bne_self_eq_false, List.reduceReplicate, List.length_set, List.length_replicate, List.length_cons, List.length_nil, List.set_cons_zero, List.set_cons_succ, Int.toNat_natCast, go_sem, reduceIte, Nat.reduceAdd, Nat.reduceMul, Nat.reduceSub, Nat.reduceEqDiff, Nat.reduceLeDiff, Nat.reduceLT, reduceCtorEq, Nat.succ_eq_add_one]
    refine goCallDS0 hW2 (by simp [rvL, rv, get, encM_takeW, wth_len, encM_len]) rfl rfl ?_
    have hc1 : (h + i.1) % n < n := Nat.mod_lt _ (by omega)
    have hc2 : (h + (i.1 + 1)) % n < n := Nat.mod_lt _ (by omega)
    have e3 : mvF l a i.1 (i.1 + 1) = gt l (i.1 + 1) := by unfold mvF; rw [if_neg (by omega)]
    have e4 : ∀ xs : List AV, xs.length = 7 → (gt l (i.1 + 1)).enc ++ xs.drop 7 = (gt l (i.1 + 1)).enc := fun xs hx => by rw [List.drop_of_length_le (by omega), List.append_nil]
    simp only [wth_nth (mvF l a i.1) (show i.1 < n by omega) rg.hh, wth_nth (mvF l a i.1) (show i.1 + 1 < n by omega) rg.hh, e3, encM_set, mvF_step l (show i.1 < n by omega) rg.hh hi.1, w64_succ (show i.1 ≤ 100000 by omega), Int.cast_ofNat_Int, Int.reduceBEq, Int.reduceLT, Int.reduceLE, Int.reduceSub, Int.reduceAdd, Int.reduceNeg, Int.reduceEq, Int.reduceToNat, decide_true, decide_false, decide_eq_true_eq, beq_self_eq_true, bne_self_eq_false, List.reduceReplicate, List.length_set, List.length_replicate, List.length_cons, List.length_nil, List.set_cons_zero, List.set_cons_succ, Int.toNat_natCast, go_sem, reduceIte, Nat.reduceAdd, Nat.reduceMul, Nat.reduceSub, Nat.reduceEqDiff, Nat.reduceLeDiff, Nat.reduceLT, reduceCtorEq, Nat.succ_eq_add_one]
    exact ⟨⟨by omega, by omega⟩, hc2, ⟨by omega, by omega⟩, hc1, rfl, hB _ ⟨i.1 + 1, by omega, by omega⟩ (by simp only; omega) (Wk.mk [(8, 8), (16, 16), (24, 24), (112, 112), (40, 40)] [] rfl rfl (by simp only [rvH, rvO, rvL, rv, go_sem, reduceIte, Nat.reduceAdd, Nat.reduceMul, Nat.reduceSub, Nat.reduceEqDiff, Nat.reduceLeDiff, Nat.reduceLT, reduceCtorEq, Nat.succ_eq_add_one]) (by simp only [go_sem, reduceIte, Nat.reduceAdd, Nat.reduceMul, Nat.reduceSub, Nat.reduceEqDiff, Nat.reduceLeDiff, Nat.reduceLT, reduceCtorEq, Nat.succ_eq_add_one]) (by simp only [rv, go_sem, reduceIte, Nat.reduceAdd, Nat.reduceMul, Nat.reduceSub, Nat.reduceEqDiff, Nat.reduceLeDiff, Nat.reduceLT, reduceCtorEq, Nat.succ_eq_add_one]))⟩
  · have e2 : i.1 = l.length - 1 := by simp only [decide_eq_false_iff_not] at h4; omega
    have hW := fn78 (wth n h (mvF l a i.1)) h (l.length - 1) (l.length - 1 : Nat) (by omega) (by omega) (by rw [wth_len]; omega)
    rw [wth_len] at hW
    refine goCallDS0 hW (by simp [rvL, rv, get, encM_takeW, wth_len, encM_len]) rfl rfl ?_
    have hc1 : (h + (l.length - 1)) % n < n := Nat.mod_lt _ (by omega)
    have hz : zM.enc = [AV.v (.int .i64 0), .v (.int .i64 0), .v (.int .i64 0), .v (.int .i64 0), .v (.int .i64 0), .v (.int .i64 0), .v (.string ⟨#[]⟩)] := rfl
    have e7 : ∀ xs : List AV, xs = zM.enc → (encM (wth n h (mvF l a (l.length - 1)))).set ((h + (l.length - 1)) % n) xs = encM (rcs n h (l.eraseIdx a)) := fun xs hx => by
      rw [hx, encM_set, mvF_end rg.ll rg.hh ha]
    simp only [e2, wth_nth (mvF l a (l.length - 1)) (show l.length - 1 < n by omega) rg.hh, e7 _ hz.symm, Int.cast_ofNat_Int, Int.reduceBEq, Int.reduceLT, Int.reduceLE, Int.reduceSub, Int.reduceAdd, Int.reduceNeg, Int.reduceEq, Int.reduceToNat, decide_true, decide_false, decide_eq_true_eq, beq_self_eq_true, bne_self_eq_false, List.reduceReplicate, List.length_set, List.length_replicate, List.length_cons, List.length_nil, List.set_cons_zero, List.set_cons_succ, Int.toNat_natCast, go_sem, reduceIte, Nat.reduceAdd, Nat.reduceMul, Nat.reduceSub, Nat.reduceEqDiff, Nat.reduceLeDiff, Nat.reduceLT, reduceCtorEq, Nat.succ_eq_add_one]
    refine ⟨⟨by omega, by omega⟩, hc1, rfl, ?_⟩
    have e8 : (l.eraseIdx a).length = l.length - 1 := List.length_eraseIdx_of_lt ha
    exact ⟨rfl, Fin.mk0 _ rfl rfl (by simp only [retOne, rv, rvL, e8, List.drop_zero, List.map_nil, List.not_mem_nil, not_false_eq_true, true_and, Int.cast_ofNat_Int, Int.reduceBEq, Int.reduceLT, Int.reduceLE, Int.reduceSub, Int.reduceAdd, Int.reduceNeg, Int.reduceEq, Int.reduceToNat, decide_true, decide_false, decide_eq_true_eq, beq_self_eq_true, bne_self_eq_false, List.reduceReplicate, List.length_set, List.length_replicate, List.length_cons, List.length_nil, List.set_cons_zero, List.set_cons_succ, Int.toNat_natCast, go_sem, reduceIte, Nat.reduceAdd, Nat.reduceMul, Nat.reduceSub, Nat.reduceEqDiff, Nat.reduceLeDiff, Nat.reduceLT, reduceCtorEq, Nat.succ_eq_add_one]; try simp)⟩

def popBA (cs : List Msg) (h s : Int) : AV :=
  if ringV cs h s ≠ 0 then .tup [ringA [] 0 0, .agg zM.enc, I (ringV cs h s)] else if s = 0 then .tup [ringA [] 0 0, .agg zM.enc, I 4]
  else .tup [ringC cs.length h.toNat ((ordL cs h.toNat s.toNat).eraseIdx (s.toNat - 1)), .agg (gt (ordL cs h.toNat s.toNat) (s.toNat - 1)).enc, I 0]
theorem fn39 (cs : List Msg) (h s : Int) : Fn Try.prog 39 [ringA cs h s] [] (popBA cs h s) [] [] := by
  refine Fn.of_go ok39 (by simp) ?_
  unfold s39 popBA
  simp only [Int.cast_ofNat_Int, Int.reduceBEq, Int.reduceLT, Int.reduceLE, Int.reduceSub, Int.reduceAdd, Int.reduceNeg, Int.reduceEq, Int.reduceToNat, decide_true, decide_false, decide_eq_true_eq, beq_self_eq_true, bne_self_eq_false, List.reduceReplicate, List.length_set, List.length_replicate, List.length_cons, List.length_nil, List.set_cons_zero, List.set_cons_succ, Int.toNat_natCast, go_sem, reduceIte, Nat.reduceAdd, Nat.reduceMul, Nat.reduceSub, Nat.reduceEqDiff, Nat.reduceLeDiff, Nat.reduceLT, reduceCtorEq, Nat.succ_eq_add_one]
  refine goCall0 (fn62 cs h s) rfl rfl ?_
  simp only [Int.cast_ofNat_Int, Int.reduceBEq, Int.reduceLT, Int.reduceLE, Int.reduceSub, Int.reduceAdd, Int.reduceNeg, Int.reduceEq, Int.reduceToNat, decide_true, decide_false, decide_eq_true_eq, beq_self_eq_true, bne_self_eq_false, List.reduceReplicate, List.length_set, List.length_replicate, List.length_cons, List.length_nil, List.set_cons_zero, List.set_cons_succ, Int.toNat_natCast, go_sem, reduceIte, Nat.reduceAdd, Nat.reduceMul, Nat.reduceSub, Nat.reduceEqDiff, Nat.reduceLeDiff, Nat.reduceLT, reduceCtorEq, Nat.succ_eq_add_one]
  refine goIf_split (fun h1 => ?_) (fun h1 => ?_) <;> simp only [h1, go_sem, reduceIte, Nat.reduceAdd, Nat.reduceMul, Nat.reduceSub, Nat.reduceEqDiff, Nat.reduceLeDiff, Nat.reduceLT, reduceCtorEq, Nat.succ_eq_add_one]
  · have e : ringV cs h s ≠ 0 := by simpa using h1
    rw [if_pos e]
    exact Fin.mk0 _ rfl rfl (by simp only [retOne, rv, rvL, encM, zM, Msg.enc, List.map_nil, go_sem, reduceIte, Nat.reduceAdd, Nat.reduceMul, Nat.reduceSub, Nat.reduceEqDiff, Nat.reduceLeDiff, Nat.reduceLT, reduceCtorEq, Nat.succ_eq_add_one])
  have e : ringV cs h s = 0 := by simpa using h1
  rw [if_neg (show ¬ ringV cs h s ≠ 0 from fun h => h e)]
  refine goIf_split (fun h2 => ?_) (fun h2 => ?_) <;> simp only [h2, go_sem, reduceIte, Nat.reduceAdd, Nat.reduceMul, Nat.reduceSub, Nat.reduceEqDiff, Nat.reduceLeDiff, Nat.reduceLT, reduceCtorEq, Nat.succ_eq_add_one]
  · have e2 : s = 0 := by simpa using h2
    rw [if_pos e2]
    exact Fin.mk0 _ rfl rfl (by simp only [retOne, rv, rvL, encM, zM, Msg.enc, List.map_nil, go_sem, reduceIte, Nat.reduceAdd, Nat.reduceMul, Nat.reduceSub, Nat.reduceEqDiff, Nat.reduceLeDiff, Nat.reduceLT, reduceCtorEq, Nat.succ_eq_add_one])
  have e2 : ¬ s = 0 := by simpa using h2
  rw [if_neg e2]
  obtain ⟨n, h', l, rg, rfl, rfl, rfl⟩ := ringV_zero' e
  have := rg.n1; have := rg.n2; have := rg.hh; have := rg.ll
  have e3 : IntKind.i64.wrap ((l.length : Int) - 1) = ((l.length - 1 : Nat) : Int) := by rw [w64 (by omega)]; omega
  simp only [Int.toNat_natCast, ordL_rcs rg.ll rg.hh, e3, Int.cast_ofNat_Int, Int.reduceBEq, Int.reduceLT, Int.reduceLE, Int.reduceSub, Int.reduceAdd, Int.reduceNeg, Int.reduceEq, Int.reduceToNat, decide_true, decide_false, decide_eq_true_eq, beq_self_eq_true, bne_self_eq_false, List.reduceReplicate, List.length_set, List.length_replicate, List.length_cons, List.length_nil, List.set_cons_zero, List.set_cons_succ, Int.toNat_natCast, go_sem, reduceIte, Nat.reduceAdd, Nat.reduceMul, Nat.reduceSub, Nat.reduceEqDiff, Nat.reduceLeDiff, Nat.reduceLT, reduceCtorEq, Nat.succ_eq_add_one]
  refine goCall0 (fn65 n h' (l.length - 1) l rg (by omega)) rfl rfl ?_
  simp only [Int.cast_ofNat_Int, Int.reduceBEq, Int.reduceLT, Int.reduceLE, Int.reduceSub, Int.reduceAdd, Int.reduceNeg, Int.reduceEq, Int.reduceToNat, decide_true, decide_false, decide_eq_true_eq, beq_self_eq_true, bne_self_eq_false, List.reduceReplicate, List.length_set, List.length_replicate, List.length_cons, List.length_nil, List.set_cons_zero, List.set_cons_succ, Int.toNat_natCast, go_sem, reduceIte, Nat.reduceAdd, Nat.reduceMul, Nat.reduceSub, Nat.reduceEqDiff, Nat.reduceLeDiff, Nat.reduceLT, reduceCtorEq, Nat.succ_eq_add_one]
  exact ⟨rfl, Fin.mk0 _ rfl rfl (by simp only [retOne, rv, rvL, Int.cast_ofNat_Int, Int.reduceBEq, Int.reduceLT, Int.reduceLE, Int.reduceSub, Int.reduceAdd, Int.reduceNeg, Int.reduceEq, Int.reduceToNat, decide_true, decide_false, decide_eq_true_eq, beq_self_eq_true, bne_self_eq_false, List.reduceReplicate, List.length_set, List.length_replicate, List.length_cons, List.length_nil, List.set_cons_zero, List.set_cons_succ, Int.toNat_natCast, go_sem, reduceIte, Nat.reduceAdd, Nat.reduceMul, Nat.reduceSub, Nat.reduceEqDiff, Nat.reduceLeDiff, Nat.reduceLT, reduceCtorEq, Nat.succ_eq_add_one])⟩

def remA (cs : List Msg) (h s id : Int) : AV :=
  if ringV cs h s ≠ 0 then .tup [ringA [] 0 0, .agg zM.enc, I (ringV cs h s)] else if idxV (ordL cs h.toNat s.toNat) id < 0 then .tup [ringA [] 0 0, .agg zM.enc, I 4]
  else .tup [ringC cs.length h.toNat ((ordL cs h.toNat s.toNat).eraseIdx (idxV (ordL cs h.toNat s.toNat) id).toNat), .agg (gt (ordL cs h.toNat s.toNat) (idxV (ordL cs h.toNat s.toNat) id).toNat).enc, I 0]
theorem idxV_lt {l : List Msg} {x : Int} (h : ¬ idxV l x < 0) : (idxV l x).toNat < l.length ∧ (gt l (idxV l x).toNat).id = x ∧ idxV l x = ((idxV l x).toNat : Nat) := by
  unfold idxV at h ⊢
  split at h
  · rename_i hm
    have h1 := List.idxOf_lt_length_of_mem hm
    rw [if_pos hm, Int.toNat_natCast]
    rw [ids_len] at h1
    refine ⟨h1, ?_, rfl⟩
    rw [gt_in h1]
    have h2 : (ids l)[(ids l).idxOf x]'(by rw [ids_len]; exact h1) = l[(ids l).idxOf x].id := by
      generalize hk : (ids l).idxOf x = k at h1 ⊢
      simp only [ids, List.getElem_map]
    rw [← h2]
    exact List.getElem_idxOf _
  · omega
theorem fn22 (cs : List Msg) (h s id : Int) : Fn Try.prog 22 [ringA cs h s, I id] [] (remA cs h s id) [] [] := by
  refine Fn.of_go ok22 (by simp) ?_
  unfold s22 remA
  simp only [Int.cast_ofNat_Int, Int.reduceBEq, Int.reduceLT, Int.reduceLE, Int.reduceSub, Int.reduceAdd, Int.reduceNeg, Int.reduceEq, Int.reduceToNat, decide_true, decide_false, decide_eq_true_eq, beq_self_eq_true, bne_self_eq_false, List.reduceReplicate, List.length_set, List.length_replicate, List.length_cons, List.length_nil, List.set_cons_zero, List.set_cons_succ, Int.toNat_natCast, go_sem, reduceIte, Nat.reduceAdd, Nat.reduceMul, Nat.reduceSub, Nat.reduceEqDiff, Nat.reduceLeDiff, Nat.reduceLT, reduceCtorEq, Nat.succ_eq_add_one]
  refine goCall0 (fn62 cs h s) rfl rfl ?_
  simp only [Int.cast_ofNat_Int, Int.reduceBEq, Int.reduceLT, Int.reduceLE, Int.reduceSub, Int.reduceAdd, Int.reduceNeg, Int.reduceEq, Int.reduceToNat, decide_true, decide_false, decide_eq_true_eq, beq_self_eq_true, bne_self_eq_false, List.reduceReplicate, List.length_set, List.length_replicate, List.length_cons, List.length_nil, List.set_cons_zero, List.set_cons_succ, Int.toNat_natCast, go_sem, reduceIte, Nat.reduceAdd, Nat.reduceMul, Nat.reduceSub, Nat.reduceEqDiff, Nat.reduceLeDiff, Nat.reduceLT, reduceCtorEq, Nat.succ_eq_add_one]
  refine goIf_split (fun h1 => ?_) (fun h1 => ?_) <;> simp only [h1, go_sem, reduceIte, Nat.reduceAdd, Nat.reduceMul, Nat.reduceSub, Nat.reduceEqDiff, Nat.reduceLeDiff, Nat.reduceLT, reduceCtorEq, Nat.succ_eq_add_one]
  · have e : ringV cs h s ≠ 0 := by simpa using h1
    rw [if_pos e]
    exact Fin.mk0 _ rfl rfl (by simp only [retOne, rv, rvL, encM, zM, Msg.enc, List.map_nil, go_sem, reduceIte, Nat.reduceAdd, Nat.reduceMul, Nat.reduceSub, Nat.reduceEqDiff, Nat.reduceLeDiff, Nat.reduceLT, reduceCtorEq, Nat.succ_eq_add_one])
  have e : ringV cs h s = 0 := by simpa using h1
  rw [if_neg (show ¬ ringV cs h s ≠ 0 from fun h => h e)]
  obtain ⟨n, h', l, rg, rfl, rfl, rfl⟩ := ringV_zero' e
  have := rg.n1; have := rg.n2; have := rg.hh; have := rg.ll
  have hF := fn64 (rcs n h' l) h' l.length id (by omega) (by omega) (by rw [rcs_len]; omega)
  simp only [Int.toNat_natCast, ordL_rcs rg.ll rg.hh] at hF ⊢
  refine goCall0 hF rfl rfl ?_
  simp only [Int.cast_ofNat_Int, Int.reduceBEq, Int.reduceLT, Int.reduceLE, Int.reduceSub, Int.reduceAdd, Int.reduceNeg, Int.reduceEq, Int.reduceToNat, decide_true, decide_false, decide_eq_true_eq, beq_self_eq_true, bne_self_eq_false, List.reduceReplicate, List.length_set, List.length_replicate, List.length_cons, List.length_nil, List.set_cons_zero, List.set_cons_succ, Int.toNat_natCast, go_sem, reduceIte, Nat.reduceAdd, Nat.reduceMul, Nat.reduceSub, Nat.reduceEqDiff, Nat.reduceLeDiff, Nat.reduceLT, reduceCtorEq, Nat.succ_eq_add_one]
  refine goIf_split (fun h2 => ?_) (fun h2 => ?_) <;> simp only [h2, go_sem, reduceIte, Nat.reduceAdd, Nat.reduceMul, Nat.reduceSub, Nat.reduceEqDiff, Nat.reduceLeDiff, Nat.reduceLT, reduceCtorEq, Nat.succ_eq_add_one]
  · have e2 : idxV l id < 0 := by simpa using h2
    rw [if_pos e2]
    exact Fin.mk0 _ rfl rfl (by simp only [retOne, rv, rvL, encM, zM, Msg.enc, List.map_nil, go_sem, reduceIte, Nat.reduceAdd, Nat.reduceMul, Nat.reduceSub, Nat.reduceEqDiff, Nat.reduceLeDiff, Nat.reduceLT, reduceCtorEq, Nat.succ_eq_add_one])
  have e2 : ¬ idxV l id < 0 := by simpa using h2
  rw [if_neg e2]
  obtain ⟨i1, i2, i3⟩ := idxV_lt e2
  rw [i3]
  simp only [Int.toNat_natCast]
  refine goCall0 (fn65 n h' (idxV l id).toNat l rg i1) rfl rfl ?_
  simp only [Int.cast_ofNat_Int, Int.reduceBEq, Int.reduceLT, Int.reduceLE, Int.reduceSub, Int.reduceAdd, Int.reduceNeg, Int.reduceEq, Int.reduceToNat, decide_true, decide_false, decide_eq_true_eq, beq_self_eq_true, bne_self_eq_false, List.reduceReplicate, List.length_set, List.length_replicate, List.length_cons, List.length_nil, List.set_cons_zero, List.set_cons_succ, Int.toNat_natCast, go_sem, reduceIte, Nat.reduceAdd, Nat.reduceMul, Nat.reduceSub, Nat.reduceEqDiff, Nat.reduceLeDiff, Nat.reduceLT, reduceCtorEq, Nat.succ_eq_add_one]
  exact ⟨rfl, Fin.mk0 _ rfl rfl (by simp only [retOne, rv, rvL, Int.cast_ofNat_Int, Int.reduceBEq, Int.reduceLT, Int.reduceLE, Int.reduceSub, Int.reduceAdd, Int.reduceNeg, Int.reduceEq, Int.reduceToNat, decide_true, decide_false, decide_eq_true_eq, beq_self_eq_true, bne_self_eq_false, List.reduceReplicate, List.length_set, List.length_replicate, List.length_cons, List.length_nil, List.set_cons_zero, List.set_cons_succ, Int.toNat_natCast, go_sem, reduceIte, Nat.reduceAdd, Nat.reduceMul, Nat.reduceSub, Nat.reduceEqDiff, Nat.reduceLeDiff, Nat.reduceLT, reduceCtorEq, Nat.succ_eq_add_one])⟩
end Go.Eng
