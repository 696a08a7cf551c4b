/-
  Walks and plain lemmas for RingBuilt: what the functions named below compute, over the abstract states of the engine.
  No condition beyond those that each theorem states.
-/
import Derived.Test.YteonhcjaekodkaaRng3
set_option linter.all false
set_option linter.unusedSimpArgs false
set_option maxRecDepth 20000
set_option maxHeartbeats 4000000
namespace Go.Eng
open Go Go.Proofs

theorem goCallDS0 {P : Program} {f : FuncId} {xs ys : List AV} {r : AV} {nm : Nat} {h : List (Nat × Ob)} {k : List It} {Q : Exit → St → Prop} {n n' : Nat} {t : List (Nat × AV)} {d : Option Nat} {l ops : List SOper} {acc : List Foot}
    (hF : Fn P f xs [] r [] []) (ha : rvL h [] [] xs ys) (hr : r.pure = true) (hn : na r = true) (hk : go P (.drw (nm + 8) n' l ops ((deepL ys, []) :: acc) :: k) Q n (putA t d r) h) : goCallD P nm f ys d n' l ops acc k Q n t h :=
  goCallD_use (hF.callS0 ha hr hn) (by simpa using hk)
theorem encM_takeL (cs : List Msg) : (encM cs).take cs.length = encM cs := by rw [← encM_len, List.take_length]
theorem encM_takeR (n h : Nat) (l : List Msg) : (encM (rcs n h l)).take n = encM (rcs n h l) := by have := encM_takeL (rcs n h l); rwa [rcs_len] at this
theorem enc_drop (m : Msg) : m.enc.drop 7 = [] := rfl
theorem rvL_enc (h : List (Nat × Ob)) (S : List (Nat × Nat)) (N : List Nat) (m : Msg) : rvL h S N m.enc m.enc := rvL_pure _ rfl
attribute [go_sem] encM_takeL encM_takeR rcs_len enc_drop rvL_enc

theorem ringV_zero' {cs : List Msg} {h s : Int} (e : ringV cs h s = 0) : ∃ (n h' : Nat) (l : List Msg), Rg n h' l ∧ cs = rcs n h' l ∧ h = h' ∧ s = (l.length : Int) := by
  obtain ⟨h', l, h1, h2, h3, h4, h5, h6, h7, h8, _⟩ := ringV_zero e
  exact ⟨cs.length, h', l, ⟨h4, h5, h6, h7, h8⟩, h3, h1, h2⟩

def roomE (cs : List Msg) (h s : Int) (m : Msg) : Int :=
  if ringV cs h s ≠ 0 then ringV cs h s else if m.val ≠ 0 then m.val else if s = cs.length then 3 else if 0 ≤ idxV (ordL cs h.toNat s.toNat) m.id then 10 else 0

theorem fn76 (cs : List Msg) (h s : Int) (m : Msg) : Fn Try.prog 76 [ringA cs h s, .agg m.enc] [] (I (roomE cs h s m)) [] [] := by
  refine Fn.of_go ok76 (by simp) ?_
  unfold s76 roomE
  simp only [Int.cast_ofNat_Int, Int.reduceBEq, Int.reduceLT, Int.reduceLE, Int.reduceSub, Int.reduceAdd, Int.reduceNeg, Int.reduceEq, Int.reduceToNat, decide_true, decide_false, decide_eq_true_eq, beq_self_eq_true, bne_self_eq_false, List.reduceReplicate, List.length_set, List.length_replicate, List.length_cons, List.length_nil, List.set_cons_zero, List.set_cons_succ, Int.toNat_natCast, go_sem, reduceIte, Nat.reduceAdd, Nat.reduceMul, Nat.reduceSub, Nat.reduceEqDiff, Nat.reduceLeDiff, Nat.reduceLT, reduceCtorEq, Nat.succ_eq_add_one]
  refine goCall0 (fn62 cs h s) rfl rfl ?_
  simp only [Int.cast_ofNat_Int, Int.reduceBEq, Int.reduceLT, Int.reduceLE, Int.reduceSub, Int.reduceAdd, Int.reduceNeg, Int.reduceEq, Int.reduceToNat, decide_true, decide_false, decide_eq_true_eq, beq_self_eq_true, bne_self_eq_false, List.reduceReplicate, List.length_set, List.length_replicate, List.length_cons, List.length_nil, List.set_cons_zero, List.set_cons_succ, Int.toNat_natCast, go_sem, reduceIte, Nat.reduceAdd, Nat.reduceMul, Nat.reduceSub, Nat.reduceEqDiff, Nat.reduceLeDiff, Nat.reduceLT, reduceCtorEq, Nat.succ_eq_add_one]
  refine goIf_split (fun h1 => ?_) (fun h1 => ?_) <;> simp only [h1, go_sem, reduceIte, Nat.reduceAdd, Nat.reduceMul, Nat.reduceSub, Nat.reduceEqDiff, Nat.reduceLeDiff, Nat.reduceLT, reduceCtorEq, Nat.succ_eq_add_one]
  · have e : ringV cs h s ≠ 0 := by simpa using h1
    rw [if_pos e]
    exact Fin.eq0 _ rfl rfl rfl rfl
  have e : ringV cs h s = 0 := by simpa using h1
  rw [if_neg (show ¬ ringV cs h s ≠ 0 from fun h => h e)]
  refine goCall0 (fn109 m) rfl rfl ?_
  simp only [Int.cast_ofNat_Int, Int.reduceBEq, Int.reduceLT, Int.reduceLE, Int.reduceSub, Int.reduceAdd, Int.reduceNeg, Int.reduceEq, Int.reduceToNat, decide_true, decide_false, decide_eq_true_eq, beq_self_eq_true, bne_self_eq_false, List.reduceReplicate, List.length_set, List.length_replicate, List.length_cons, List.length_nil, List.set_cons_zero, List.set_cons_succ, Int.toNat_natCast, go_sem, reduceIte, Nat.reduceAdd, Nat.reduceMul, Nat.reduceSub, Nat.reduceEqDiff, Nat.reduceLeDiff, Nat.reduceLT, reduceCtorEq, Nat.succ_eq_add_one]
  refine goIf_split (fun h2 => ?_) (fun h2 => ?_) <;> simp only [h2, go_sem, reduceIte, Nat.reduceAdd, Nat.reduceMul, Nat.reduceSub, Nat.reduceEqDiff, Nat.reduceLeDiff, Nat.reduceLT, reduceCtorEq, Nat.succ_eq_add_one]
  · have e2 : m.val ≠ 0 := by simpa using h2
    rw [if_pos e2]
    exact Fin.eq0 _ rfl rfl rfl rfl
  have e2 : m.val = 0 := by simpa using h2
  rw [if_neg (show ¬ m.val ≠ 0 from fun h => h e2)]
  refine goIf_split (fun h3 => ?_) (fun h3 => ?_) <;> simp only [h3, go_sem, reduceIte, Nat.reduceAdd, Nat.reduceMul, Nat.reduceSub, Nat.reduceEqDiff, Nat.reduceLeDiff, Nat.reduceLT, reduceCtorEq, Nat.succ_eq_add_one]
  · have e3 : s = cs.length := by simpa using h3
    rw [if_pos e3]
    exact Fin.eq0 _ rfl rfl rfl rfl
  have e3 : ¬ s = cs.length := by simpa using h3
  rw [if_neg e3]
  obtain ⟨n, h', l, rg, rfl, rfl, rfl⟩ := ringV_zero' e
  have := rg.n1; have := rg.n2; have := rg.hh; have := rg.ll
  have hb : m.enc = [I m.id, I m.route, I m.epoch, I m.count, I m.gen, I m.sent, .v (.string m.body)] := rfl
  simp only [hb, Int.cast_ofNat_Int, Int.reduceBEq, Int.reduceLT, Int.reduceLE, Int.reduceSub, Int.reduceAdd, Int.reduceNeg, Int.reduceEq, Int.reduceToNat, decide_true, decide_false, decide_eq_true_eq, beq_self_eq_true, bne_self_eq_false, List.reduceReplicate, List.length_set, List.length_replicate, List.length_cons, List.length_nil, List.set_cons_zero, List.set_cons_succ, Int.toNat_natCast, go_sem, reduceIte, Nat.reduceAdd, Nat.reduceMul, Nat.reduceSub, Nat.reduceEqDiff, Nat.reduceLeDiff, Nat.reduceLT, reduceCtorEq, Nat.succ_eq_add_one]
  refine goCall0 (fn64 (rcs n h' l) h' l.length m.id (by omega) (by omega) (by rw [rcs_len]; omega)) rfl rfl ?_
  simp only [Int.cast_ofNat_Int, Int.reduceBEq, Int.reduceLT, Int.reduceLE, Int.reduceSub, Int.reduceAdd, Int.reduceNeg, Int.reduceEq, Int.reduceToNat, decide_true, decide_false, decide_eq_true_eq, beq_self_eq_true, bne_self_eq_false, List.reduceReplicate, List.length_set, List.length_replicate, List.length_cons, List.length_nil, List.set_cons_zero, List.set_cons_succ, Int.toNat_natCast, go_sem, reduceIte, Nat.reduceAdd, Nat.reduceMul, Nat.reduceSub, Nat.reduceEqDiff, Nat.reduceLeDiff, Nat.reduceLT, reduceCtorEq, Nat.succ_eq_add_one]
  refine goIf_split (fun h4 => ?_) (fun h4 => ?_) <;> simp only [h4, go_sem, reduceIte, Nat.reduceAdd, Nat.reduceMul, Nat.reduceSub, Nat.reduceEqDiff, Nat.reduceLeDiff, Nat.reduceLT, reduceCtorEq, Nat.succ_eq_add_one]
  · have e4 : 0 ≤ idxV (ordL (rcs n h' l) h' l.length) m.id := by simpa using h4
    simp only [e4, if_true]
    exact Fin.eq0 _ rfl rfl rfl rfl
  · have e4 : ¬ 0 ≤ idxV (ordL (rcs n h' l) h' l.length) m.id := by simpa using h4
    simp only [e4, if_false]
    exact Fin.eq0 _ rfl rfl rfl rfl

def newR (k : Int) : AV := if k < 1 then .tup [ringA [] 0 0, I 1] else if 12 < k then .tup [ringA [] 0 0, I 1] else .tup [ringC k.toNat 0 [], I 0]
theorem fn35 (k : Int) : Fn Try.prog 35 [I k] [] (newR k) [] [] := by
  refine Fn.of_go ok35 (by simp) ?_
  unfold s35 newR
  simp only [Int.cast_ofNat_Int, Int.reduceBEq, Int.reduceLT, Int.reduceLE, Int.reduceSub, Int.reduceAdd, Int.reduceNeg, Int.reduceEq, Int.reduceToNat, decide_true, decide_false, decide_eq_true_eq, beq_self_eq_true, bne_self_eq_false, List.reduceReplicate, List.length_set, List.length_replicate, List.length_cons, List.length_nil, List.set_cons_zero, List.set_cons_succ, Int.toNat_natCast, go_sem, reduceIte, Nat.reduceAdd, Nat.reduceMul, Nat.reduceSub, Nat.reduceEqDiff, Nat.reduceLeDiff, Nat.reduceLT, reduceCtorEq, Nat.succ_eq_add_one]
  by_cases h1 : k < 1
  · simp only [h1, decide_true, if_true, go_sem, reduceIte, Nat.reduceAdd, Nat.reduceMul, Nat.reduceSub, Nat.reduceEqDiff, Nat.reduceLeDiff, Nat.reduceLT, reduceCtorEq, Nat.succ_eq_add_one]
    exact Fin.mk0 _ rfl rfl (by simp only [retOne, rv, rvL, encM, List.map_nil, go_sem, reduceIte, Nat.reduceAdd, Nat.reduceMul, Nat.reduceSub, Nat.reduceEqDiff, Nat.reduceLeDiff, Nat.reduceLT, reduceCtorEq, Nat.succ_eq_add_one])
  by_cases h2 : 12 < k
  · simp only [h1, h2, decide_true, decide_false, if_true, if_false, go_sem, reduceIte, Nat.reduceAdd, Nat.reduceMul, Nat.reduceSub, Nat.reduceEqDiff, Nat.reduceLeDiff, Nat.reduceLT, reduceCtorEq, Nat.succ_eq_add_one]
    exact Fin.mk0 _ rfl rfl (by simp only [retOne, rv, rvL, encM, List.map_nil, go_sem, reduceIte, Nat.reduceAdd, Nat.reduceMul, Nat.reduceSub, Nat.reduceEqDiff, Nat.reduceLeDiff, Nat.reduceLT, reduceCtorEq, Nat.succ_eq_add_one])
  simp only [h1, h2, decide_false, if_false, go_sem, reduceIte, Nat.reduceAdd, Nat.reduceMul, Nat.reduceSub, Nat.reduceEqDiff, Nat.reduceLeDiff, Nat.reduceLT, reduceCtorEq, Nat.succ_eq_add_one]
  refine ⟨⟨by omega, by omega, by omega⟩, Fin.mk0 _ rfl rfl ?_⟩
  have e : encM (rcs k.toNat 0 []) = List.replicate k.toNat [AV.v (.int .i64 0), .v (.int .i64 0), .v (.int .i64 0), .v (.int .i64 0), .v (.int .i64 0), .v (.int .i64 0), .v (.string ⟨#[]⟩)] := by rw [rcs_nil]; simp [encM, Msg.enc, zM]
  simp only [retOne, rv, rvL, e, List.take_replicate, Nat.min_self, List.length_replicate, List.drop_zero, List.map_nil, List.not_mem_nil, not_false_eq_true, true_and, Int.cast_ofNat_Int, Int.reduceBEq, Int.reduceLT, Int.reduceLE, Int.reduceSub, Int.reduceAdd, Int.reduceNeg, Int.reduceEq, Int.reduceToNat, decide_true, decide_false, decide_eq_true_eq, beq_self_eq_true, bne_self_eq_false, List.reduceReplicate, List.length_set, List.length_replicate, List.length_cons, List.length_nil, List.set_cons_zero, List.set_cons_succ, Int.toNat_natCast, go_sem, reduceIte, Nat.reduceAdd, Nat.reduceMul, Nat.reduceSub, Nat.reduceEqDiff, Nat.reduceLeDiff, Nat.reduceLT, reduceCtorEq, Nat.succ_eq_add_one]
  simp

def pushBA (cs : List Msg) (h s : Int) (m : Msg) : AV := if roomE cs h s m ≠ 0 then .tup [ringA [] 0 0, I (roomE cs h s m)] else .tup [ringC cs.length h.toNat (ordL cs h.toNat s.toNat ++ [m]), I 0]
def pushFA (cs : List Msg) (h s : Int) (m : Msg) : AV := if roomE cs h s m ≠ 0 then .tup [ringA [] 0 0, I (roomE cs h s m)] else .tup [ringC cs.length ((h.toNat + (cs.length - 1)) % cs.length) (m :: ordL cs h.toNat s.toNat), I 0]
theorem roomE_zero {cs : List Msg} {h s : Int} {m : Msg} (e : roomE cs h s m = 0) : ringV cs h s = 0 ∧ s ≠ cs.length ∧ m.val = 0 ∧ ¬ 0 ≤ idxV (ordL cs h.toNat s.toNat) m.id := by
  unfold roomE at e
  by_cases h1 : ringV cs h s = 0
  · by_cases h2 : m.val = 0
    · by_cases h3 : s = cs.length
      · rw [if_neg (by simp [h1]), if_neg (by simp [h2]), if_pos h3] at e; cases e
      · rw [if_neg (by simp [h1]), if_neg (by simp [h2]), if_neg h3] at e
        by_cases h4 : 0 ≤ idxV (ordL cs h.toNat s.toNat) m.id
        · rw [if_pos h4] at e; cases e
        · exact ⟨h1, h3, h2, h4⟩
    · rw [if_neg (by simp [h1]), if_pos h2] at e; exact absurd e h2
  · rw [if_pos h1] at e; exact absurd e h1

theorem fn36 (cs : List Msg) (h s : Int) (m : Msg) : Fn Try.prog 36 [ringA cs h s, .agg m.enc] [] (pushBA cs h s m) [] [] := by
  refine Fn.of_go ok36 (by simp) ?_
  unfold s36 pushBA
  simp only [Int.cast_ofNat_Int, Int.reduceBEq, Int.reduceLT, Int.reduceLE, Int.reduceSub, Int.reduceAdd, Int.reduceNeg, Int.reduceEq, Int.reduceToNat, decide_true, decide_false, decide_eq_true_eq, beq_self_eq_true, bne_self_eq_false, List.reduceReplicate, List.length_set, List.length_replicate, List.length_cons, List.length_nil, List.set_cons_zero, List.set_cons_succ, Int.toNat_natCast, go_sem, reduceIte, Nat.reduceAdd, Nat.reduceMul, Nat.reduceSub, Nat.reduceEqDiff, Nat.reduceLeDiff, Nat.reduceLT, reduceCtorEq, Nat.succ_eq_add_one]
  refine goCall0 (fn76 cs h s m) rfl rfl ?_
  simp only [Int.cast_ofNat_Int, Int.reduceBEq, Int.reduceLT, Int.reduceLE, Int.reduceSub, Int.reduceAdd, Int.reduceNeg, Int.reduceEq, Int.reduceToNat, decide_true, decide_false, decide_eq_true_eq, beq_self_eq_true, bne_self_eq_false, List.reduceReplicate, List.length_set, List.length_replicate, List.length_cons, List.length_nil, List.set_cons_zero, List.set_cons_succ, Int.toNat_natCast, go_sem, reduceIte, Nat.reduceAdd, Nat.reduceMul, Nat.reduceSub, Nat.reduceEqDiff, Nat.reduceLeDiff, Nat.reduceLT, reduceCtorEq, Nat.succ_eq_add_one]
  refine goIf_split (fun h1 => ?_) (fun h1 => ?_) <;> simp only [h1, go_sem, reduceIte, Nat.reduceAdd, Nat.reduceMul, Nat.reduceSub, Nat.reduceEqDiff, Nat.reduceLeDiff, Nat.reduceLT, reduceCtorEq, Nat.succ_eq_add_one]
  · have e : roomE cs h s m ≠ 0 := by simpa using h1
    rw [if_pos e]
    exact Fin.mk0 _ rfl rfl (by simp only [retOne, rv, rvL, encM, List.map_nil, go_sem, reduceIte, Nat.reduceAdd, Nat.reduceMul, Nat.reduceSub, Nat.reduceEqDiff, Nat.reduceLeDiff, Nat.reduceLT, reduceCtorEq, Nat.succ_eq_add_one])
  have e : roomE cs h s m = 0 := by simpa using h1
  rw [if_neg (show ¬ roomE cs h s m ≠ 0 from fun h => h e)]
  obtain ⟨e1, e2, _, _⟩ := roomE_zero e
  obtain ⟨n, h', l, rg, rfl, rfl, rfl⟩ := ringV_zero' e1
  have := rg.n1; have := rg.n2; have := rg.hh; have := rg.ll
  rw [rcs_len] at e2
  refine goCallE (fn77 (rcs n h' l) h' l.length (by rw [rcs_len]; omega) (by rw [rcs_len]; omega)) rfl rfl (by simp) (by simp [expA, expL]) ?_
  simp only [obsFrom, sh, shL, Int.cast_ofNat_Int, Int.reduceBEq, Int.reduceLT, Int.reduceLE, Int.reduceSub, Int.reduceAdd, Int.reduceNeg, Int.reduceEq, Int.reduceToNat, decide_true, decide_false, decide_eq_true_eq, beq_self_eq_true, bne_self_eq_false, List.reduceReplicate, List.length_set, List.length_replicate, List.length_cons, List.length_nil, List.set_cons_zero, List.set_cons_succ, Int.toNat_natCast, go_sem, reduceIte, Nat.reduceAdd, Nat.reduceMul, Nat.reduceSub, Nat.reduceEqDiff, Nat.reduceLeDiff, Nat.reduceLT, reduceCtorEq, Nat.succ_eq_add_one]
  have hi : l.length < n := by omega
  refine goCallDS0 (fn78 (rcs n h' l) h' l.length l.length (by omega) (by omega) (by rw [rcs_len]; omega)) (by simp [rvL, rv, get, encM_takeR, rcs_len, encM_len]) rfl rfl ?_
  have hc : (h' + l.length) % n < n := Nat.mod_lt _ (by omega)
  simp only [rcs_nth l hi rg.hh, encM_set, rcs_push m hi rg.hh, ordL_rcs rg.ll rg.hh, w64_succ (show l.length ≤ 100000 by omega), Int.cast_ofNat_Int, Int.reduceBEq, Int.reduceLT, Int.reduceLE, Int.reduceSub, Int.reduceAdd, Int.reduceNeg, Int.reduceEq, Int.reduceToNat, decide_true, decide_false, decide_eq_true_eq, beq_self_eq_true, bne_self_eq_false, List.reduceReplicate, List.length_set, List.length_replicate, List.length_cons, List.length_nil, List.set_cons_zero, List.set_cons_succ, Int.toNat_natCast, go_sem, reduceIte, Nat.reduceAdd, Nat.reduceMul, Nat.reduceSub, Nat.reduceEqDiff, Nat.reduceLeDiff, Nat.reduceLT, reduceCtorEq, Nat.succ_eq_add_one]
  exact ⟨⟨by omega, by omega⟩, hc, rfl, Fin.mk0 _ rfl rfl (by simp only [retOne, rv, rvL, List.length_append, List.drop_zero, List.map_nil, List.not_mem_nil, not_false_eq_true, true_and, Int.cast_ofNat_Int, Int.reduceBEq, Int.reduceLT, Int.reduceLE, Int.reduceSub, Int.reduceAdd, Int.reduceNeg, Int.reduceEq, Int.reduceToNat, decide_true, decide_false, decide_eq_true_eq, beq_self_eq_true, bne_self_eq_false, List.reduceReplicate, List.length_set, List.length_replicate, List.length_cons, List.length_nil, List.set_cons_zero, List.set_cons_succ, Int.toNat_natCast, go_sem, reduceIte, Nat.reduceAdd, Nat.reduceMul, Nat.reduceSub, Nat.reduceEqDiff, Nat.reduceLeDiff, Nat.reduceLT, reduceCtorEq, Nat.succ_eq_add_one]; try simp)⟩

theorem fn37 (cs : List Msg) (h s : Int) (m : Msg) : Fn Try.prog 37 [ringA cs h s, .agg m.enc] [] (pushFA cs h s m) [] [] := by
  refine Fn.of_go ok37 (by simp) ?_
  unfold s37 pushFA
  simp only [Int.cast_ofNat_Int, Int.reduceBEq, Int.reduceLT, Int.reduceLE, Int.reduceSub, Int.reduceAdd, Int.reduceNeg, Int.reduceEq, Int.reduceToNat, decide_true, decide_false, decide_eq_true_eq, beq_self_eq_true, bne_self_eq_false, List.reduceReplicate, List.length_set, List.length_replicate, List.length_cons, List.length_nil, List.set_cons_zero, List.set_cons_succ, Int.toNat_natCast, go_sem, reduceIte, Nat.reduceAdd, Nat.reduceMul, Nat.reduceSub, Nat.reduceEqDiff, Nat.reduceLeDiff, Nat.reduceLT, reduceCtorEq, Nat.succ_eq_add_one]
  refine goCall0 (fn76 cs h s m) rfl rfl ?_
  simp only [Int.cast_ofNat_Int, Int.reduceBEq, Int.reduceLT, Int.reduceLE, Int.reduceSub, Int.reduceAdd, Int.reduceNeg, Int.reduceEq, Int.reduceToNat, decide_true, decide_false, decide_eq_true_eq, beq_self_eq_true, bne_self_eq_false, List.reduceReplicate, List.length_set, List.length_replicate, List.length_cons, List.length_nil, List.set_cons_zero, List.set_cons_succ, Int.toNat_natCast, go_sem, reduceIte, Nat.reduceAdd, Nat.reduceMul, Nat.reduceSub, Nat.reduceEqDiff, Nat.reduceLeDiff, Nat.reduceLT, reduceCtorEq, Nat.succ_eq_add_one]
  refine goIf_split (fun h1 => ?_) (fun h1 => ?_) <;> simp only [h1, go_sem, reduceIte, Nat.reduceAdd, Nat.reduceMul, Nat.reduceSub, Nat.reduceEqDiff, Nat.reduceLeDiff, Nat.reduceLT, reduceCtorEq, Nat.succ_eq_add_one]
  · have e : roomE cs h s m ≠ 0 := by simpa using h1
    rw [if_pos e]
    exact Fin.mk0 _ rfl rfl (by simp only [retOne, rv, rvL, encM, List.map_nil, go_sem, reduceIte, Nat.reduceAdd, Nat.reduceMul, Nat.reduceSub, Nat.reduceEqDiff, Nat.reduceLeDiff, Nat.reduceLT, reduceCtorEq, Nat.succ_eq_add_one])
  have e : roomE cs h s m = 0 := by simpa using h1
  rw [if_neg (show ¬ roomE cs h s m ≠ 0 from fun h => h e)]
  obtain ⟨e1, e2, _, _⟩ := roomE_zero e
  obtain ⟨n, h', l, rg, rfl, rfl, rfl⟩ := ringV_zero' e1
  have := rg.n1; have := rg.n2; have := rg.hh; have := rg.ll
  rw [rcs_len] at e2
  refine goCallE (fn77 (rcs n h' l) h' l.length (by rw [rcs_len]; omega) (by rw [rcs_len]; omega)) rfl rfl (by simp) (by simp [expA, expL]) ?_
  have e3 : IntKind.i64.wrap ((n : Int) - 1) = ((n - 1 : Nat) : Int) := by rw [w64 (by omega)]; omega
  simp only [obsFrom, sh, shL, e3, Int.cast_ofNat_Int, Int.reduceBEq, Int.reduceLT, Int.reduceLE, Int.reduceSub, Int.reduceAdd, Int.reduceNeg, Int.reduceEq, Int.reduceToNat, decide_true, decide_false, decide_eq_true_eq, beq_self_eq_true, bne_self_eq_false, List.reduceReplicate, List.length_set, List.length_replicate, List.length_cons, List.length_nil, List.set_cons_zero, List.set_cons_succ, Int.toNat_natCast, go_sem, reduceIte, Nat.reduceAdd, Nat.reduceMul, Nat.reduceSub, Nat.reduceEqDiff, Nat.reduceLeDiff, Nat.reduceLT, reduceCtorEq, Nat.succ_eq_add_one]
  have hi : l.length < n := by omega
  refine goCallS0 (fn78 (rcs n h' l) h' (n - 1) l.length (by omega) (by omega) (by rw [rcs_len]; omega)) (by simp [rvL, rv, get, encM_takeR, rcs_len, encM_len]) rfl rfl ?_
  have hc : (h' + (n - 1)) % n < n := Nat.mod_lt _ (by omega)
  simp only [rcs_nth l (show n - 1 < n by omega) rg.hh, encM_set, rcs_cons m hi rg.hh, ordL_rcs rg.ll rg.hh, w64_succ (show l.length ≤ 100000 by omega), Int.cast_ofNat_Int, Int.reduceBEq, Int.reduceLT, Int.reduceLE, Int.reduceSub, Int.reduceAdd, Int.reduceNeg, Int.reduceEq, Int.reduceToNat, decide_true, decide_false, decide_eq_true_eq, beq_self_eq_true, bne_self_eq_false, List.reduceReplicate, List.length_set, List.length_replicate, List.length_cons, List.length_nil, List.set_cons_zero, List.set_cons_succ, Int.toNat_natCast, go_sem, reduceIte, Nat.reduceAdd, Nat.reduceMul, Nat.reduceSub, Nat.reduceEqDiff, Nat.reduceLeDiff, Nat.reduceLT, reduceCtorEq, Nat.succ_eq_add_one]
  exact ⟨⟨by omega, by omega⟩, hc, Fin.mk0 _ rfl rfl (by simp only [retOne, rv, rvL, List.length_append, List.drop_zero, List.map_nil, List.not_mem_nil, not_false_eq_true, true_and, Int.cast_ofNat_Int, Int.reduceBEq, Int.reduceLT, Int.reduceLE, Int.reduceSub, Int.reduceAdd, Int.reduceNeg, Int.reduceEq, Int.reduceToNat, decide_true, decide_false, decide_eq_true_eq, beq_self_eq_true, bne_self_eq_false, List.reduceReplicate, List.length_set, List.length_replicate, List.length_cons, List.length_nil, List.set_cons_zero, List.set_cons_succ, Int.toNat_natCast, go_sem, reduceIte, Nat.reduceAdd, Nat.reduceMul, Nat.reduceSub, Nat.reduceEqDiff, Nat.reduceLeDiff, Nat.reduceLT, reduceCtorEq, Nat.succ_eq_add_one]; try simp)⟩

def popFA (cs : List Msg) (h s : Int) : AV :=
  if ringV cs h s ≠ 0 then .tup [ringA [] 0 0, .agg zM.enc, I (ringV cs h s)] else match ordL cs h.toNat s.toNat with
  | [] => .tup [ringA [] 0 0, .agg zM.enc, I 4]
  | m :: l => .tup [ringC cs.length ((h.toNat + 1) % cs.length) l, .agg m.enc, I 0]
theorem fn38 (cs : List Msg) (h s : Int) : Fn Try.prog 38 [ringA cs h s] [] (popFA cs h s) [] [] := by
  refine Fn.of_go ok38 (by simp) ?_
  unfold s38 popFA
  simp only [Int.cast_ofNat_Int, Int.reduceBEq, Int.reduceLT, Int.reduceLE, Int.reduceSub, Int.reduceAdd, Int.reduceNeg, Int.reduceEq, Int.reduceToNat, decide_true, decide_false, decide_eq_true_eq, beq_self_eq_true, bne_self_eq_false, List.reduceReplicate, List.length_set, List.length_replicate, List.length_cons, List.length_nil, List.set_cons_zero, List.set_cons_succ, Int.toNat_natCast, go_sem, reduceIte, Nat.reduceAdd, Nat.reduceMul, Nat.reduceSub, Nat.reduceEqDiff, Nat.reduceLeDiff, Nat.reduceLT, reduceCtorEq, Nat.succ_eq_add_one]
  refine goCall0 (fn62 cs h s) rfl rfl ?_
  simp only [Int.cast_ofNat_Int, Int.reduceBEq, Int.reduceLT, Int.reduceLE, Int.reduceSub, Int.reduceAdd, Int.reduceNeg, Int.reduceEq, Int.reduceToNat, decide_true, decide_false, decide_eq_true_eq, beq_self_eq_true, bne_self_eq_false, List.reduceReplicate, List.length_set, List.length_replicate, List.length_cons, List.length_nil, List.set_cons_zero, List.set_cons_succ, Int.toNat_natCast, go_sem, reduceIte, Nat.reduceAdd, Nat.reduceMul, Nat.reduceSub, Nat.reduceEqDiff, Nat.reduceLeDiff, Nat.reduceLT, reduceCtorEq, Nat.succ_eq_add_one]
  refine goIf_split (fun h1 => ?_) (fun h1 => ?_) <;> simp only [h1, go_sem, reduceIte, Nat.reduceAdd, Nat.reduceMul, Nat.reduceSub, Nat.reduceEqDiff, Nat.reduceLeDiff, Nat.reduceLT, reduceCtorEq, Nat.succ_eq_add_one]
  · have e : ringV cs h s ≠ 0 := by simpa using h1
    rw [if_pos e]
    exact Fin.mk0 _ rfl rfl (by simp only [retOne, rv, rvL, encM, zM, Msg.enc, List.map_nil, go_sem, reduceIte, Nat.reduceAdd, Nat.reduceMul, Nat.reduceSub, Nat.reduceEqDiff, Nat.reduceLeDiff, Nat.reduceLT, reduceCtorEq, Nat.succ_eq_add_one])
  have e : ringV cs h s = 0 := by simpa using h1
  rw [if_neg (show ¬ ringV cs h s ≠ 0 from fun h => h e)]
  obtain ⟨n, h', l, rg, rfl, rfl, rfl⟩ := ringV_zero' e
  have := rg.n1; have := rg.n2; have := rg.hh; have hll := rg.ll
  simp only [Int.toNat_natCast, ordL_rcs rg.ll rg.hh]
  cases l with
  | nil =>
    simp only [List.length_nil, Int.cast_ofNat_Int, Int.reduceBEq, Int.reduceLT, Int.reduceLE, Int.reduceSub, Int.reduceAdd, Int.reduceNeg, Int.reduceEq, Int.reduceToNat, decide_true, decide_false, decide_eq_true_eq, beq_self_eq_true, bne_self_eq_false, List.reduceReplicate, List.length_set, List.length_replicate, List.length_cons, List.length_nil, List.set_cons_zero, List.set_cons_succ, Int.toNat_natCast, go_sem, reduceIte, Nat.reduceAdd, Nat.reduceMul, Nat.reduceSub, Nat.reduceEqDiff, Nat.reduceLeDiff, Nat.reduceLT, reduceCtorEq, Nat.succ_eq_add_one]
    exact Fin.mk0 _ rfl rfl (by simp only [retOne, rv, rvL, encM, zM, Msg.enc, List.map_nil, go_sem, reduceIte, Nat.reduceAdd, Nat.reduceMul, Nat.reduceSub, Nat.reduceEqDiff, Nat.reduceLeDiff, Nat.reduceLT, reduceCtorEq, Nat.succ_eq_add_one])
  | cons m l =>
    have e5 : (((l.length + 1 : Nat) : Int) == 0) = false := by simp; omega
    simp only [List.length_cons] at hll
    simp only [e5, go_sem, reduceIte, Nat.reduceAdd, Nat.reduceMul, Nat.reduceSub, Nat.reduceEqDiff, Nat.reduceLeDiff, Nat.reduceLT, reduceCtorEq, Nat.succ_eq_add_one]
    refine goCallE (fn77 (rcs n h' (m :: l)) h' ((m :: l).length : Nat) (by rw [rcs_len]; omega) (by rw [rcs_len]; omega)) rfl rfl (by simp) (by simp [expA, expL]) ?_
    simp only [obsFrom, sh, shL, Int.cast_ofNat_Int, Int.reduceBEq, Int.reduceLT, Int.reduceLE, Int.reduceSub, Int.reduceAdd, Int.reduceNeg, Int.reduceEq, Int.reduceToNat, decide_true, decide_false, decide_eq_true_eq, beq_self_eq_true, bne_self_eq_false, List.reduceReplicate, List.length_set, List.length_replicate, List.length_cons, List.length_nil, List.set_cons_zero, List.set_cons_succ, Int.toNat_natCast, go_sem, reduceIte, Nat.reduceAdd, Nat.reduceMul, Nat.reduceSub, Nat.reduceEqDiff, Nat.reduceLeDiff, Nat.reduceLT, reduceCtorEq, Nat.succ_eq_add_one]
    have e6 : nth (encM (rcs n h' (m :: l))) h' = m.enc := by
      have := rcs_nth (n := n) (h := h') (i := 0) (m :: l) (by omega) rg.hh
      rwa [Nat.add_zero, Nat.mod_eq_of_lt rg.hh] at this
    have e7 : ∀ xs : List AV, xs = zM.enc → (encM (rcs n h' (m :: l))).set h' xs = encM (rcs n ((h' + 1) % n) l) := fun xs hx => by
      rw [hx, encM_set, rcs_tail rg.ll rg.hh]
    have hz : zM.enc = [AV.v (.int .i64 0), .v (.int .i64 0), .v (.int .i64 0), .v (.int .i64 0), .v (.int .i64 0), .v (.int .i64 0), .v (.string ⟨#[]⟩)] := rfl
    simp only [e6, Int.toNat_natCast, e7 _ hz.symm, Int.cast_ofNat_Int, Int.reduceBEq, Int.reduceLT, Int.reduceLE, Int.reduceSub, Int.reduceAdd, Int.reduceNeg, Int.reduceEq, Int.reduceToNat, decide_true, decide_false, decide_eq_true_eq, beq_self_eq_true, bne_self_eq_false, List.reduceReplicate, List.length_set, List.length_replicate, List.length_cons, List.length_nil, List.set_cons_zero, List.set_cons_succ, Int.toNat_natCast, go_sem, reduceIte, Nat.reduceAdd, Nat.reduceMul, Nat.reduceSub, Nat.reduceEqDiff, Nat.reduceLeDiff, Nat.reduceLT, reduceCtorEq, Nat.succ_eq_add_one]
    refine ⟨⟨by omega, by omega⟩, rg.hh, ⟨by omega, by omega⟩, rg.hh, ?_⟩
    refine goCallS0 (fn78 (rcs n ((h' + 1) % n) l) h' 1 (l.length + 1 : Nat) (by omega) (by omega) (by rw [rcs_len]; omega)) (by simp [rvL, rv, get, encM_takeR, rcs_len, encM_len]) rfl rfl ?_
    simp only [w64_pred (show l.length ≤ 100000 by omega), Int.cast_ofNat_Int, Int.reduceBEq, Int.reduceLT, Int.reduceLE, Int.reduceSub, Int.reduceAdd, Int.reduceNeg, Int.reduceEq, Int.reduceToNat, decide_true, decide_false, decide_eq_true_eq, beq_self_eq_true, bne_self_eq_false, List.reduceReplicate, List.length_set, List.length_replicate, List.length_cons, List.length_nil, List.set_cons_zero, List.set_cons_succ, Int.toNat_natCast, go_sem, reduceIte, Nat.reduceAdd, Nat.reduceMul, Nat.reduceSub, Nat.reduceEqDiff, Nat.reduceLeDiff, Nat.reduceLT, reduceCtorEq, Nat.succ_eq_add_one]
    exact ⟨rfl, Fin.mk0 _ rfl rfl (by simp only [retOne, rv, rvL, List.length_append, List.drop_zero, List.map_nil, List.not_mem_nil, not_false_eq_true, true_and, Int.cast_ofNat_Int, Int.reduceBEq, Int.reduceLT, Int.reduceLE, Int.reduceSub, Int.reduceAdd, Int.reduceNeg, Int.reduceEq, Int.reduceToNat, decide_true, decide_false, decide_eq_true_eq, beq_self_eq_true, bne_self_eq_false, List.reduceReplicate, List.length_set, List.length_replicate, List.length_cons, List.length_nil, List.set_cons_zero, List.set_cons_succ, Int.toNat_natCast, go_sem, reduceIte, Nat.reduceAdd, Nat.reduceMul, Nat.reduceSub, Nat.reduceEqDiff, Nat.reduceLeDiff, Nat.reduceLT, reduceCtorEq, Nat.succ_eq_add_one]; try simp)⟩
end Go.Eng
