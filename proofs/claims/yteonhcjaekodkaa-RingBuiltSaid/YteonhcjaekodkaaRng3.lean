/-
  Walks and plain lemmas for RingBuilt: what the functions named below compute, over the abstract states of the engine.
  No condition beyond those that each theorem states.
-/
import Derived.Test.YteonhcjaekodkaaRng2
set_option linter.all false
set_option linter.unusedSimpArgs false
set_option maxRecDepth 20000
set_option maxHeartbeats 4000000
namespace Go.Eng
open Go Go.Proofs

def eqv (a b : Msg) : Bool := (a.id == b.id) && ((a.route == b.route) && ((a.epoch == b.epoch) && ((a.count == b.count) && ((a.gen == b.gen) && ((a.sent == b.sent) && ((a.body.toList == b.body.toList) && true))))))
theorem eqCells_eqv (a b : Msg) : eqCells [0, 0, 0, 0, 0, 0, 1] a.enc b.enc = some (eqv a b) := by
  simp only [eqCells, Msg.enc, if_true, eqv]
theorem eqCells_z (a : Msg) : eqCells [0, 0, 0, 0, 0, 0, 1] a.enc [.v (.int .i64 0), .v (.int .i64 0), .v (.int .i64 0), .v (.int .i64 0), .v (.int .i64 0), .v (.int .i64 0), .v (.string ⟨#[]⟩)] = some (eqv a zM) := eqCells_eqv a zM
theorem eqv_refl (a : Msg) : eqv a a = true := by simp [eqv]
theorem tl_len (s : ByteArray) (i : Nat) (r : List UInt8) : (ByteArray.toList.loop s i r).length = r.length + (s.size - i) := by
  unfold ByteArray.toList.loop
  split
  · rename_i h
    rw [tl_len s (i + 1)]
    simp
    omega
  · simp
    omega
termination_by s.size - i
theorem eqv_z {a : Msg} (h : eqv a zM = true) : a = zM := by
  obtain ⟨a1, a2, a3, a4, a5, a6, a7⟩ := a
  simp only [eqv, zM, Bool.and_eq_true, beq_iff_eq, and_true] at h
  obtain ⟨h1, h2, h3, h4, h5, h6, h7⟩ := h
  subst h1 h2 h3 h4 h5 h6
  have e : a7.toList.length = 0 := by
    rw [h7]
    have := tl_len ⟨#[]⟩ 0 []
    unfold ByteArray.toList
    rw [this]
    rfl
  have e2 : a7.size = 0 := by
    have := tl_len a7 0 []
    unfold ByteArray.toList at e
    simp at this
    omega
  have : a7 = ⟨#[]⟩ := by
    obtain ⟨d⟩ := a7
    have : d.size = 0 := e2
    rw [Array.size_eq_zero_iff] at this
    rw [this]
  rw [this]
  rfl
attribute [go_sem] eqCells_z

theorem seen_put_in (n : Int) : ∀ xs : List Int, n ∈ xs → putM (seenE xs) .i64 n (Bo true) = some (seenE xs)
  | [], h => by simp at h
  | x :: xs, h => by
    simp only [seenE, List.map_cons, putM, if_true]
    by_cases e : n = x
    · rw [if_pos e]
    · rw [if_neg e]
      have ih := seen_put_in n xs (by simpa [e] using h)
      simp only [seenE] at ih
      rw [ih]

def rngOk (cs : List Msg) (h s : Int) : Bool := decide (1 ≤ cs.length) && (decide (cs.length ≤ 12) && (decide (0 ≤ h) && (decide (h < cs.length) && (decide (0 ≤ s) && decide (s ≤ cs.length)))))
def restZ (cs : List Msg) (h s : Nat) : Bool := (List.range cs.length).all fun i => decide (i < s) || eqv (gt cs ((h + i) % cs.length)) zM
def ringV (cs : List Msg) (h s : Int) : Int := if rngOk cs h s = false then 1 else if restZ cs h.toNat s.toNat = false then 7 else sndV (ordL cs h.toNat s.toNat)

structure SeenP (ms : List Msg) where
  j : Nat
  es : List Int
  b : Bool
  hj : j ≤ ms.length
  inv : invL (ms.take j) = 0
  mem : ∀ x, x ∈ es ↔ x ∈ (ids ms).take j
  hb : b = !decide (((ids ms).take j).Nodup)

theorem fn62 (cs : List Msg) (h s : Int) : Fn Try.prog 62 [ringA cs h s] [] (I (ringV cs h s)) [] [] := by
  refine Fn.of_go ok62 (by simp) ?_
  unfold s62
  have bad : rngOk cs h s = false → ringV cs h s = 1 := fun e => by unfold ringV; rw [if_pos e]
  simp only [Int.cast_ofNat_Int, Int.reduceBEq, Int.reduceLT, Int.reduceLE, Int.reduceSub, Int.reduceAdd, Int.reduceNeg, Int.reduceEq, Int.reduceToNat, decide_true, decide_false, decide_eq_true_eq, beq_self_eq_true, bne_self_eq_false, List.reduceReplicate, List.length_set, List.length_replicate, List.length_cons, List.length_nil, List.set_cons_zero, List.set_cons_succ, Int.toNat_natCast, go_sem, reduceIte, Nat.reduceAdd, Nat.reduceMul, Nat.reduceSub, Nat.reduceEqDiff, Nat.reduceLeDiff, Nat.reduceLT, reduceCtorEq, Nat.succ_eq_add_one]
  by_cases c1 : (cs.length : Int) < 1
  · simp only [c1, decide_true, go_sem, reduceIte, Nat.reduceAdd, Nat.reduceMul, Nat.reduceSub, Nat.reduceEqDiff, Nat.reduceLeDiff, Nat.reduceLT, reduceCtorEq, Nat.succ_eq_add_one]
    exact Fin.eq0 _ rfl rfl rfl (by rw [bad (by simp [rngOk]; omega)]; rfl)
  by_cases c2 : (12 : Int) < cs.length
  · simp only [c1, c2, decide_true, decide_false, go_sem, reduceIte, Nat.reduceAdd, Nat.reduceMul, Nat.reduceSub, Nat.reduceEqDiff, Nat.reduceLeDiff, Nat.reduceLT, reduceCtorEq, Nat.succ_eq_add_one]
    exact Fin.eq0 _ rfl rfl rfl (by rw [bad (by simp [rngOk]; omega)]; rfl)
  by_cases c3 : h < 0
  · simp only [c1, c2, c3, decide_true, decide_false, go_sem, reduceIte, Nat.reduceAdd, Nat.reduceMul, Nat.reduceSub, Nat.reduceEqDiff, Nat.reduceLeDiff, Nat.reduceLT, reduceCtorEq, Nat.succ_eq_add_one]
    exact Fin.eq0 _ rfl rfl rfl (by rw [bad (by simp [rngOk]; omega)]; rfl)
  by_cases c4 : (cs.length : Int) ≤ h
  · simp only [c1, c2, c3, c4, decide_true, decide_false, go_sem, reduceIte, Nat.reduceAdd, Nat.reduceMul, Nat.reduceSub, Nat.reduceEqDiff, Nat.reduceLeDiff, Nat.reduceLT, reduceCtorEq, Nat.succ_eq_add_one]
    exact Fin.eq0 _ rfl rfl rfl (by rw [bad (by simp [rngOk]; omega)]; rfl)
  by_cases c5 : s < 0
  · simp only [c1, c2, c3, c4, c5, decide_true, decide_false, go_sem, reduceIte, Nat.reduceAdd, Nat.reduceMul, Nat.reduceSub, Nat.reduceEqDiff, Nat.reduceLeDiff, Nat.reduceLT, reduceCtorEq, Nat.succ_eq_add_one]
    exact Fin.eq0 _ rfl rfl rfl (by rw [bad (by simp [rngOk]; omega)]; rfl)
  by_cases c6 : (cs.length : Int) < s
  · simp only [c1, c2, c3, c4, c5, c6, decide_true, decide_false, go_sem, reduceIte, Nat.reduceAdd, Nat.reduceMul, Nat.reduceSub, Nat.reduceEqDiff, Nat.reduceLeDiff, Nat.reduceLT, reduceCtorEq, Nat.succ_eq_add_one]
    exact Fin.eq0 _ rfl rfl rfl (by rw [bad (by simp [rngOk]; omega)]; rfl)
  simp only [c1, c2, c3, c4, c5, c6, decide_false, go_sem, reduceIte, Nat.reduceAdd, Nat.reduceMul, Nat.reduceSub, Nat.reduceEqDiff, Nat.reduceLeDiff, Nat.reduceLT, reduceCtorEq, Nat.succ_eq_add_one]
  have hok : rngOk cs h s = true := by simp [rngOk]; omega
  obtain ⟨h, rfl⟩ : ∃ h' : Nat, h = h' := ⟨h.toNat, by omega⟩
  obtain ⟨s, rfl⟩ : ∃ s' : Nat, s = s' := ⟨s.toNat, by omega⟩
  have hn : 0 < cs.length := by omega
  refine go_loop (fun j : {j : Nat // s ≤ j ∧ j ≤ cs.length ∧ ∀ i, s ≤ i → i < j → eqv (gt cs ((h + i) % cs.length)) zM = true} => ⟨1000, [(1, .ptr 8 0), (3, I cs.length), (4, I j.1)], [(8, .box [slM cs, I h, I s])]⟩) (fun j => cs.length - j.1) ⟨s, by omega, by omega, fun i h1 h2 => by omega⟩
    (Wk.mk [(8, 8)] [] rfl rfl (by simp only [rvH, rvO, rvL, rv, go_sem, reduceIte, Nat.reduceAdd, Nat.reduceMul, Nat.reduceSub, Nat.reduceEqDiff, Nat.reduceLeDiff, Nat.reduceLT, reduceCtorEq, Nat.succ_eq_add_one]) (by simp only [go_sem, reduceIte, Nat.reduceAdd, Nat.reduceMul, Nat.reduceSub, Nat.reduceEqDiff, Nat.reduceLeDiff, Nat.reduceLT, reduceCtorEq, Nat.succ_eq_add_one]) (by simp only [rv, Int.cast_ofNat_Int, Int.reduceBEq, Int.reduceLT, Int.reduceLE, Int.reduceSub, Int.reduceAdd, Int.reduceNeg, Int.reduceEq, Int.reduceToNat, decide_true, decide_false, decide_eq_true_eq, beq_self_eq_true, bne_self_eq_false, List.reduceReplicate, List.length_set, List.length_replicate, List.length_cons, List.length_nil, List.set_cons_zero, List.set_cons_succ, Int.toNat_natCast, go_sem, reduceIte, Nat.reduceAdd, Nat.reduceMul, Nat.reduceSub, Nat.reduceEqDiff, Nat.reduceLeDiff, Nat.reduceLT, reduceCtorEq, Nat.succ_eq_add_one]; try simp)) ?_
  intro j B hB
  have hj := j.2
  simp only [go_sem, reduceIte, Nat.reduceAdd, Nat.reduceMul, Nat.reduceSub, Nat.reduceEqDiff, Nat.reduceLeDiff, Nat.reduceLT, reduceCtorEq, Nat.succ_eq_add_one]
  refine goIf_split (fun h4 => ?_) (fun h4 => ?_) <;> simp only [h4, go_sem, reduceIte, Nat.reduceAdd, Nat.reduceMul, Nat.reduceSub, Nat.reduceEqDiff, Nat.reduceLeDiff, Nat.reduceLT, reduceCtorEq, Nat.succ_eq_add_one]
  · have e1 : j.1 < cs.length := by simp only [decide_eq_true_eq] at h4; omega
    refine goCallD0 (fn78 cs h j.1 s (by omega) (by omega) hn) rfl rfl ?_
    have e2 : (h + j.1) % cs.length < cs.length := Nat.mod_lt _ hn
    simp only [nth_gt e2, Int.cast_ofNat_Int, Int.reduceBEq, Int.reduceLT, Int.reduceLE, Int.reduceSub, Int.reduceAdd, Int.reduceNeg, Int.reduceEq, Int.reduceToNat, decide_true, decide_false, decide_eq_true_eq, beq_self_eq_true, bne_self_eq_false, List.reduceReplicate, List.length_set, List.length_replicate, List.length_cons, List.length_nil, List.set_cons_zero, List.set_cons_succ, Int.toNat_natCast, go_sem, reduceIte, Nat.reduceAdd, Nat.reduceMul, Nat.reduceSub, Nat.reduceEqDiff, Nat.reduceLeDiff, Nat.reduceLT, reduceCtorEq, Nat.succ_eq_add_one]
    refine ⟨⟨by omega, by omega⟩, rfl, ?_⟩
    cases h5 : eqv (gt cs ((h + j.1) % cs.length)) zM with
    | false =>
      simp only [Bool.not_false, go_sem, reduceIte, Nat.reduceAdd, Nat.reduceMul, Nat.reduceSub, Nat.reduceEqDiff, Nat.reduceLeDiff, Nat.reduceLT, reduceCtorEq, Nat.succ_eq_add_one]
      refine Fin.eq0 _ rfl rfl rfl ?_
      have hz : restZ cs h s = false := by
        rw [Bool.eq_false_iff]
        intro hr
        simp only [restZ, List.all_eq_true, List.mem_range, Bool.or_eq_true, decide_eq_true_eq] at hr
        rcases hr j.1 e1 with h6 | h6
        · omega
        · rw [h5] at h6; cases h6
      have hv : ringV cs h s = 7 := by
        unfold ringV
        rw [if_neg (by simp [hok]), Int.toNat_natCast, Int.toNat_natCast, if_pos hz]
      rw [hv]
      rfl
    | true =>
      simp only [Bool.not_true, w64_succ (show j.1 ≤ 100000 by omega), go_sem, reduceIte, Nat.reduceAdd, Nat.reduceMul, Nat.reduceSub, Nat.reduceEqDiff, Nat.reduceLeDiff, Nat.reduceLT, reduceCtorEq, Nat.succ_eq_add_one]
      refine hB _ ⟨j.1 + 1, by omega, e1, fun i h6 h7 => ?_⟩ (by simp only; omega) (Wk.mk [(8, 8)] [] rfl rfl (by simp only [rvH, rvO, rvL, rv, go_sem, reduceIte, Nat.reduceAdd, Nat.reduceMul, Nat.reduceSub, Nat.reduceEqDiff, Nat.reduceLeDiff, Nat.reduceLT, reduceCtorEq, Nat.succ_eq_add_one]) (by simp only [go_sem, reduceIte, Nat.reduceAdd, Nat.reduceMul, Nat.reduceSub, Nat.reduceEqDiff, Nat.reduceLeDiff, Nat.reduceLT, reduceCtorEq, Nat.succ_eq_add_one]) (by simp only [rv, go_sem, reduceIte, Nat.reduceAdd, Nat.reduceMul, Nat.reduceSub, Nat.reduceEqDiff, Nat.reduceLeDiff, Nat.reduceLT, reduceCtorEq, Nat.succ_eq_add_one]))
      rcases Nat.lt_or_ge i j.1 with h8 | h8
      · exact hj.2.2 i h6 h8
      · rw [show i = j.1 by omega]; exact h5
  · have e1 : j.1 = cs.length := by simp only [decide_eq_false_iff_not] at h4; omega
    have hz : restZ cs h s = true := by
      simp only [restZ, List.all_eq_true, List.mem_range, Bool.or_eq_true, decide_eq_true_eq]
      intro i hi
      by_cases hs : i < s
      · exact .inl hs
      · exact .inr (hj.2.2 i (by omega) (by omega))
    have hv : ringV cs h s = sndV (ordL cs h s) := by
      unfold ringV
      rw [if_neg (by simp [hok]), Int.toNat_natCast, Int.toNat_natCast, if_neg (by simp [hz])]
    rw [hv]
    have hol := ordL_len cs h s
    refine goCall0 (fn63 cs h s (by omega) (by omega) hn) rfl rfl ?_
    generalize ordL cs h s = ms at hol ⊢
    simp only [Int.cast_ofNat_Int, Int.reduceBEq, Int.reduceLT, Int.reduceLE, Int.reduceSub, Int.reduceAdd, Int.reduceNeg, Int.reduceEq, Int.reduceToNat, decide_true, decide_false, decide_eq_true_eq, beq_self_eq_true, bne_self_eq_false, List.reduceReplicate, List.length_set, List.length_replicate, List.length_cons, List.length_nil, List.set_cons_zero, List.set_cons_succ, Int.toNat_natCast, go_sem, reduceIte, Nat.reduceAdd, Nat.reduceMul, Nat.reduceSub, Nat.reduceEqDiff, Nat.reduceLeDiff, Nat.reduceLT, reduceCtorEq, Nat.succ_eq_add_one]
    refine go_loop (fun q : SeenP ms => ⟨2000, [(5, .mp 1500), (6, Bo q.b), (59, slM ms), (60, I ms.length), (61, I q.j)], [(1500, .map (seenE q.es))]⟩) (fun q => ms.length - q.j) ⟨0, [], false, by omega, rfl, by simp, by simp⟩
      (Wk.mk [(1500, 1024)] [] rfl rfl (by simp only [rvH, rvO, seenE, List.map_nil, go_sem, reduceIte, Nat.reduceAdd, Nat.reduceMul, Nat.reduceSub, Nat.reduceEqDiff, Nat.reduceLeDiff, Nat.reduceLT, reduceCtorEq, Nat.succ_eq_add_one]) (by simp only [go_sem, reduceIte, Nat.reduceAdd, Nat.reduceMul, Nat.reduceSub, Nat.reduceEqDiff, Nat.reduceLeDiff, Nat.reduceLT, reduceCtorEq, Nat.succ_eq_add_one]) (by simp only [rv, Int.cast_ofNat_Int, Int.reduceBEq, Int.reduceLT, Int.reduceLE, Int.reduceSub, Int.reduceAdd, Int.reduceNeg, Int.reduceEq, Int.reduceToNat, decide_true, decide_false, decide_eq_true_eq, beq_self_eq_true, bne_self_eq_false, List.reduceReplicate, List.length_set, List.length_replicate, List.length_cons, List.length_nil, List.set_cons_zero, List.set_cons_succ, Int.toNat_natCast, go_sem, reduceIte, Nat.reduceAdd, Nat.reduceMul, Nat.reduceSub, Nat.reduceEqDiff, Nat.reduceLeDiff, Nat.reduceLT, reduceCtorEq, Nat.succ_eq_add_one]; try simp)) ?_
    intro q B hB
    have hj := q.hj
    simp only [go_sem, reduceIte, Nat.reduceAdd, Nat.reduceMul, Nat.reduceSub, Nat.reduceEqDiff, Nat.reduceLeDiff, Nat.reduceLT, reduceCtorEq, Nat.succ_eq_add_one]
    refine goIf_split (fun h4 => ?_) (fun h4 => ?_) <;> simp only [h4, go_sem, reduceIte, Nat.reduceAdd, Nat.reduceMul, Nat.reduceSub, Nat.reduceEqDiff, Nat.reduceLeDiff, Nat.reduceLT, reduceCtorEq, Nat.succ_eq_add_one]
    · have e1 : q.j < ms.length := by simp only [decide_eq_true_eq] at h4; omega
      have e2 : q.j < (ids ms).length := by rw [ids_len]; exact e1
      have e3 : (ids ms)[q.j] = ms[q.j].id := by simp [ids]
      have e4 := invL_step e1 q.inv
      have hq : 0 ≤ (q.j : Int) ∧ (q.j : Int) < (ms.length : Int) := ⟨by omega, by omega⟩
      simp only [Int.toNat_natCast, encM_nth e1, go_sem, reduceIte, Nat.reduceAdd, Nat.reduceMul, Nat.reduceSub, Nat.reduceEqDiff, Nat.reduceLeDiff, Nat.reduceLT, reduceCtorEq, Nat.succ_eq_add_one]
      refine ⟨hq, ?_⟩
      refine goCall0 (fn109 _) rfl rfl ?_
      simp only [go_sem, reduceIte, Nat.reduceAdd, Nat.reduceMul, Nat.reduceSub, Nat.reduceEqDiff, Nat.reduceLeDiff, Nat.reduceLT, reduceCtorEq, Nat.succ_eq_add_one]
      refine goIf_split (fun h2 => ?_) (fun h2 => ?_) <;> simp only [h2, go_sem, reduceIte, Nat.reduceAdd, Nat.reduceMul, Nat.reduceSub, Nat.reduceEqDiff, Nat.reduceLeDiff, Nat.reduceLT, reduceCtorEq, Nat.succ_eq_add_one]
      · have e5 : ms[q.j].val ≠ 0 := by simpa using h2
        refine Fin.eq0 _ rfl rfl rfl ?_
        simp only [retOne, sndV, e4.2 e5, if_pos e5]
      · have e5 : ms[q.j].val = 0 := by simpa using h2
        have e6 : (ids ms).take (q.j + 1) = (ids ms).take q.j ++ [ms[q.j].id] := by rw [List.take_succ_eq_append_getElem e2, e3]
        have e7 := take_succ_nodup e2
        rw [e3] at e7
        have hmem : ∀ x, x ∈ q.es ++ [ms[q.j].id] ↔ x ∈ (ids ms).take (q.j + 1) := fun x => by rw [e6]; simp only [List.mem_append, List.mem_singleton, q.mem]
        have hb := q.hb
        by_cases h6 : ms[q.j].id ∈ q.es
        · have h7 : ms[q.j].id ∈ (ids ms).take q.j := (q.mem _).1 h6
          have nb : decide (((ids ms).take (q.j + 1)).Nodup) = false := by simp [e7, h7]
          have hmem2 : ∀ x, x ∈ q.es ↔ x ∈ (ids ms).take (q.j + 1) := fun x => by
            rw [← hmem x]; simp only [List.mem_append, List.mem_singleton]
            exact ⟨.inl, fun h => h.elim id (fun h => h ▸ h6)⟩
          cases h8 : q.b with
          | true =>
            simp only [Msg.enc, seen_put_in _ _ h6, w64_succ (show q.j ≤ 100000 by omega), Int.cast_ofNat_Int, Int.reduceBEq, Int.reduceLT, Int.reduceLE, Int.reduceSub, Int.reduceAdd, Int.reduceNeg, Int.reduceEq, Int.reduceToNat, decide_true, decide_false, decide_eq_true_eq, beq_self_eq_true, bne_self_eq_false, List.reduceReplicate, List.length_set, List.length_replicate, List.length_cons, List.length_nil, List.set_cons_zero, List.set_cons_succ, Int.toNat_natCast, go_sem, reduceIte, Nat.reduceAdd, Nat.reduceMul, Nat.reduceSub, Nat.reduceEqDiff, Nat.reduceLeDiff, Nat.reduceLT, reduceCtorEq, Nat.succ_eq_add_one]
            exact hB _ ⟨q.j + 1, q.es, true, e1, e4.1.trans e5, hmem2, by rw [nb]; rfl⟩ (by simp only; omega) (Wk.mk [(1500, 1500)] [] rfl rfl (by simp only [rvH, rvO, go_sem, reduceIte, Nat.reduceAdd, Nat.reduceMul, Nat.reduceSub, Nat.reduceEqDiff, Nat.reduceLeDiff, Nat.reduceLT, reduceCtorEq, Nat.succ_eq_add_one]) (by simp only [go_sem, reduceIte, Nat.reduceAdd, Nat.reduceMul, Nat.reduceSub, Nat.reduceEqDiff, Nat.reduceLeDiff, Nat.reduceLT, reduceCtorEq, Nat.succ_eq_add_one]) (by simp only [rv, go_sem, reduceIte, Nat.reduceAdd, Nat.reduceMul, Nat.reduceSub, Nat.reduceEqDiff, Nat.reduceLeDiff, Nat.reduceLT, reduceCtorEq, Nat.succ_eq_add_one]))
          | false =>
            simp only [Msg.enc, seen_look, h6, if_true, Option.getD_some, seen_put_in _ _ h6, w64_succ (show q.j ≤ 100000 by omega), Int.cast_ofNat_Int, Int.reduceBEq, Int.reduceLT, Int.reduceLE, Int.reduceSub, Int.reduceAdd, Int.reduceNeg, Int.reduceEq, Int.reduceToNat, decide_true, decide_false, decide_eq_true_eq, beq_self_eq_true, bne_self_eq_false, List.reduceReplicate, List.length_set, List.length_replicate, List.length_cons, List.length_nil, List.set_cons_zero, List.set_cons_succ, Int.toNat_natCast, go_sem, reduceIte, Nat.reduceAdd, Nat.reduceMul, Nat.reduceSub, Nat.reduceEqDiff, Nat.reduceLeDiff, Nat.reduceLT, reduceCtorEq, Nat.succ_eq_add_one]
            exact hB _ ⟨q.j + 1, q.es, true, e1, e4.1.trans e5, hmem2, by rw [nb]; rfl⟩ (by simp only; omega) (Wk.mk [(1500, 1500)] [] rfl rfl (by simp only [rvH, rvO, go_sem, reduceIte, Nat.reduceAdd, Nat.reduceMul, Nat.reduceSub, Nat.reduceEqDiff, Nat.reduceLeDiff, Nat.reduceLT, reduceCtorEq, Nat.succ_eq_add_one]) (by simp only [go_sem, reduceIte, Nat.reduceAdd, Nat.reduceMul, Nat.reduceSub, Nat.reduceEqDiff, Nat.reduceLeDiff, Nat.reduceLT, reduceCtorEq, Nat.succ_eq_add_one]) (by simp only [rv, go_sem, reduceIte, Nat.reduceAdd, Nat.reduceMul, Nat.reduceSub, Nat.reduceEqDiff, Nat.reduceLeDiff, Nat.reduceLT, reduceCtorEq, Nat.succ_eq_add_one]))
        · have h7 : ms[q.j].id ∉ (ids ms).take q.j := fun h => h6 ((q.mem _).2 h)
          cases h8 : q.b with
          | true =>
            rw [h8] at hb
            have nb : decide (((ids ms).take (q.j + 1)).Nodup) = false := by
              have : ¬ ((ids ms).take q.j).Nodup := by simpa using hb.symm
              simp [e7, this]
            simp only [Msg.enc, seen_put _ _ h6, w64_succ (show q.j ≤ 100000 by omega), Int.cast_ofNat_Int, Int.reduceBEq, Int.reduceLT, Int.reduceLE, Int.reduceSub, Int.reduceAdd, Int.reduceNeg, Int.reduceEq, Int.reduceToNat, decide_true, decide_false, decide_eq_true_eq, beq_self_eq_true, bne_self_eq_false, List.reduceReplicate, List.length_set, List.length_replicate, List.length_cons, List.length_nil, List.set_cons_zero, List.set_cons_succ, Int.toNat_natCast, go_sem, reduceIte, Nat.reduceAdd, Nat.reduceMul, Nat.reduceSub, Nat.reduceEqDiff, Nat.reduceLeDiff, Nat.reduceLT, reduceCtorEq, Nat.succ_eq_add_one]
            exact hB _ ⟨q.j + 1, q.es ++ [ms[q.j].id], true, e1, e4.1.trans e5, hmem, by rw [nb]; rfl⟩ (by simp only; omega) (Wk.mk [(1500, 1500)] [] rfl rfl (by simp only [rvH, rvO, go_sem, reduceIte, Nat.reduceAdd, Nat.reduceMul, Nat.reduceSub, Nat.reduceEqDiff, Nat.reduceLeDiff, Nat.reduceLT, reduceCtorEq, Nat.succ_eq_add_one]) (by simp only [go_sem, reduceIte, Nat.reduceAdd, Nat.reduceMul, Nat.reduceSub, Nat.reduceEqDiff, Nat.reduceLeDiff, Nat.reduceLT, reduceCtorEq, Nat.succ_eq_add_one]) (by simp only [rv, go_sem, reduceIte, Nat.reduceAdd, Nat.reduceMul, Nat.reduceSub, Nat.reduceEqDiff, Nat.reduceLeDiff, Nat.reduceLT, reduceCtorEq, Nat.succ_eq_add_one]))
          | false =>
            rw [h8] at hb
            have nb : decide (((ids ms).take (q.j + 1)).Nodup) = true := by
              have : ((ids ms).take q.j).Nodup := by simpa using hb.symm
              simp [e7, this, h7]
            simp only [Msg.enc, seen_look, h6, if_false, Option.getD_none, seen_put _ _ h6, w64_succ (show q.j ≤ 100000 by omega), Int.cast_ofNat_Int, Int.reduceBEq, Int.reduceLT, Int.reduceLE, Int.reduceSub, Int.reduceAdd, Int.reduceNeg, Int.reduceEq, Int.reduceToNat, decide_true, decide_false, decide_eq_true_eq, beq_self_eq_true, bne_self_eq_false, List.reduceReplicate, List.length_set, List.length_replicate, List.length_cons, List.length_nil, List.set_cons_zero, List.set_cons_succ, Int.toNat_natCast, go_sem, reduceIte, Nat.reduceAdd, Nat.reduceMul, Nat.reduceSub, Nat.reduceEqDiff, Nat.reduceLeDiff, Nat.reduceLT, reduceCtorEq, Nat.succ_eq_add_one]
            exact hB _ ⟨q.j + 1, q.es ++ [ms[q.j].id], false, e1, e4.1.trans e5, hmem, by rw [nb]; rfl⟩ (by simp only; omega) (Wk.mk [(1500, 1500)] [] rfl rfl (by simp only [rvH, rvO, go_sem, reduceIte, Nat.reduceAdd, Nat.reduceMul, Nat.reduceSub, Nat.reduceEqDiff, Nat.reduceLeDiff, Nat.reduceLT, reduceCtorEq, Nat.succ_eq_add_one]) (by simp only [go_sem, reduceIte, Nat.reduceAdd, Nat.reduceMul, Nat.reduceSub, Nat.reduceEqDiff, Nat.reduceLeDiff, Nat.reduceLT, reduceCtorEq, Nat.succ_eq_add_one]) (by simp only [rv, go_sem, reduceIte, Nat.reduceAdd, Nat.reduceMul, Nat.reduceSub, Nat.reduceEqDiff, Nat.reduceLeDiff, Nat.reduceLT, reduceCtorEq, Nat.succ_eq_add_one]))
    · have e1 : q.j = ms.length := by simp only [decide_eq_false_iff_not] at h4; omega
      have hb := q.hb
      rw [e1, List.take_of_length_le (by rw [ids_len]; omega)] at hb
      have hi := q.inv
      rw [e1, List.take_length] at hi
      have hd : q.b = dup ms := hb
      refine goIf_split (fun h5 => ?_) (fun h5 => ?_) <;> simp only [h5, go_sem, reduceIte, Nat.reduceAdd, Nat.reduceMul, Nat.reduceSub, Nat.reduceEqDiff, Nat.reduceLeDiff, Nat.reduceLT, reduceCtorEq, Nat.succ_eq_add_one]
      · refine Fin.eq0 _ rfl rfl rfl ?_
        rw [h5] at hd
        simp only [retOne, sndV, hi, ← hd, ne_eq, not_true_eq_false, if_false, if_true]
      · refine Fin.eq0 _ rfl rfl rfl ?_
        rw [h5] at hd
        simp only [retOne, sndV, hi, ← hd, ne_eq, not_true_eq_false, if_false]
        rfl

theorem ringV_zero {cs : List Msg} {h s : Int} (e : ringV cs h s = 0) : ∃ (h' : Nat) (l : List Msg), h = h' ∧ s = (l.length : Int) ∧ cs = rcs cs.length h' l ∧ 1 ≤ cs.length ∧ cs.length ≤ 12 ∧ h' < cs.length ∧ l.length ≤ cs.length ∧ sndV l = 0 ∧ l = ordL cs h' l.length := by
  unfold ringV at e
  split at e
  · cases e
  · rename_i h1
    split at e
    · cases e
    · rename_i h2
      simp only [Bool.not_eq_false] at h1 h2
      simp only [rngOk, Bool.and_eq_true, decide_eq_true_eq] at h1
      simp only [restZ, List.all_eq_true, List.mem_range, Bool.or_eq_true, decide_eq_true_eq] at h2
      refine ⟨h.toNat, ordL cs h.toNat s.toNat, by omega, by rw [ordL_len]; omega, ?_, by omega, by omega, by omega, by rw [ordL_len]; omega, e, by rw [ordL_len]⟩
      refine (rcs_ord (by omega) (by omega) fun i hi hn => ?_).symm
      rcases h2 i hn with h3 | h3
      · omega
      · exact eqv_z h3
/-- A ring in order. -/
structure Rg (n h : Nat) (l : List Msg) : Prop where
  n1 : 1 ≤ n
  n2 : n ≤ 12
  hh : h < n
  ll : l.length ≤ n
  snd : sndV l = 0
theorem Rg.ok {n h : Nat} {l : List Msg} (r : Rg n h l) : ringV (rcs n h l) h l.length = 0 := by
  have := r.n1; have := r.n2; have := r.hh; have := r.ll
  unfold ringV
  rw [if_neg (by simp [rngOk, rcs_len]; omega), if_neg]
  · rw [Int.toNat_natCast, Int.toNat_natCast, ordL_rcs r.ll r.hh]; exact r.snd
  · simp only [Bool.not_eq_false, restZ, List.all_eq_true, List.mem_range, Bool.or_eq_true, decide_eq_true_eq, rcs_len, Int.toNat_natCast]
    intro i hi
    by_cases h1 : i < l.length
    · exact .inl h1
    · right
      rw [rcs_cell l hi r.hh, gt_out (by omega)]
      exact eqv_refl _

def listA (cs : List Msg) (h s : Int) : List Msg := if ringV cs h s ≠ 0 then [] else ordL cs h.toNat s.toNat
theorem fn21 (cs : List Msg) (h s : Int) : Fn Try.prog 21 [ringA cs h s] [] (slM (listA cs h s)) [] [] := by
  refine Fn.of_go ok21 (by simp) ?_
  unfold s21 listA
  simp only [Int.cast_ofNat_Int, Int.reduceBEq, Int.reduceLT, Int.reduceLE, Int.reduceSub, Int.reduceAdd, Int.reduceNeg, Int.reduceEq, Int.reduceToNat, decide_true, decide_false, decide_eq_true_eq, beq_self_eq_true, bne_self_eq_false, List.reduceReplicate, List.length_set, List.length_replicate, List.length_cons, List.length_nil, List.set_cons_zero, List.set_cons_succ, Int.toNat_natCast, go_sem, reduceIte, Nat.reduceAdd, Nat.reduceMul, Nat.reduceSub, Nat.reduceEqDiff, Nat.reduceLeDiff, Nat.reduceLT, reduceCtorEq, Nat.succ_eq_add_one]
  refine goCall0 (fn62 cs h s) rfl rfl ?_
  simp only [Int.cast_ofNat_Int, Int.reduceBEq, Int.reduceLT, Int.reduceLE, Int.reduceSub, Int.reduceAdd, Int.reduceNeg, Int.reduceEq, Int.reduceToNat, decide_true, decide_false, decide_eq_true_eq, beq_self_eq_true, bne_self_eq_false, List.reduceReplicate, List.length_set, List.length_replicate, List.length_cons, List.length_nil, List.set_cons_zero, List.set_cons_succ, Int.toNat_natCast, go_sem, reduceIte, Nat.reduceAdd, Nat.reduceMul, Nat.reduceSub, Nat.reduceEqDiff, Nat.reduceLeDiff, Nat.reduceLT, reduceCtorEq, Nat.succ_eq_add_one]
  refine goIf_split (fun h1 => ?_) (fun h1 => ?_) <;> simp only [h1, go_sem, reduceIte, Nat.reduceAdd, Nat.reduceMul, Nat.reduceSub, Nat.reduceEqDiff, Nat.reduceLeDiff, Nat.reduceLT, reduceCtorEq, Nat.succ_eq_add_one]
  · have e : ringV cs h s ≠ 0 := by simpa using h1
    rw [if_pos e]
    exact Fin.mk0 _ rfl rfl (by simp only [retOne, rv, encM, List.map_nil, go_sem, reduceIte, Nat.reduceAdd, Nat.reduceMul, Nat.reduceSub, Nat.reduceEqDiff, Nat.reduceLeDiff, Nat.reduceLT, reduceCtorEq, Nat.succ_eq_add_one])
  · have e : ringV cs h s = 0 := by simpa using h1
    rw [if_neg (show ¬ ringV cs h s ≠ 0 from fun h => h e)]
    obtain ⟨h', l, rfl, rfl, _, e1, e2, e3, e4, _, e5⟩ := ringV_zero e
    refine goCall0 (fn63 cs h' l.length (by omega) (by omega) (by omega)) rfl rfl ?_
    simp only [Int.toNat_natCast, go_sem, reduceIte, Nat.reduceAdd, Nat.reduceMul, Nat.reduceSub, Nat.reduceEqDiff, Nat.reduceLeDiff, Nat.reduceLT, reduceCtorEq, Nat.succ_eq_add_one]
    exact Fin.eq0 _ rfl rfl rfl rfl
end Go.Eng
