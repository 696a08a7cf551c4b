/-
  Walks and plain lemmas for DeadBuilt: what the functions named below compute, over the abstract states of the engine.
  No condition beyond those that each theorem states.
-/
import Derived.Test.YteonhcjaekodkaaDed5
set_option linter.all false
set_option linter.unusedSimpArgs false
set_option maxRecDepth 20000
set_option maxHeartbeats 4000000
namespace Go.Eng
open Go Go.Proofs

def cleanA (c : Int) (ms : List Msg) (ep : Int) : AV :=
  if validV c ms ep ≠ 0 then .tup [deadA 0 [], I 0, I (validV c ms ep)] else .tup [deadA c (keep ep ms), I ((ms.length : Int) - (keep ep ms).length), I 0]

theorem keep_le (ep : Int) (ms : List Msg) : (keep ep ms).length ≤ ms.length := List.length_filter_le _ _

theorem fn41 (c : Int) (ms : List Msg) (ep : Int) (hl : ms.length ≤ 10000) : Fn Try.prog 41 [deadA c ms, I ep] [] (cleanA c ms ep) [] [] := by
  refine Fn.of_go ok41 (by simp) ?_
  unfold s41 cleanA
  simp only [Int.cast_ofNat_Int, Int.reduceBEq, Int.reduceLT, Int.reduceLE, Int.reduceSub, Int.reduceAdd, Int.reduceNeg, Int.reduceEq, Int.reduceToNat, decide_true, decide_false, decide_eq_true_eq, beq_self_eq_true, bne_self_eq_false, List.reduceReplicate, List.length_set, List.length_replicate, List.length_cons, List.length_nil, List.set_cons_zero, List.set_cons_succ, Int.toNat_natCast, go_sem, reduceIte, Nat.reduceAdd, Nat.reduceMul, Nat.reduceSub, Nat.reduceEqDiff, Nat.reduceLeDiff, Nat.reduceLT, reduceCtorEq, Nat.succ_eq_add_one]
  refine goCall0 (fn74 c ms ep (by omega)) rfl rfl ?_
  simp only [Int.cast_ofNat_Int, Int.reduceBEq, Int.reduceLT, Int.reduceLE, Int.reduceSub, Int.reduceAdd, Int.reduceNeg, Int.reduceEq, Int.reduceToNat, decide_true, decide_false, decide_eq_true_eq, beq_self_eq_true, bne_self_eq_false, List.reduceReplicate, List.length_set, List.length_replicate, List.length_cons, List.length_nil, List.set_cons_zero, List.set_cons_succ, Int.toNat_natCast, go_sem, reduceIte, Nat.reduceAdd, Nat.reduceMul, Nat.reduceSub, Nat.reduceEqDiff, Nat.reduceLeDiff, Nat.reduceLT, reduceCtorEq, Nat.succ_eq_add_one]
  refine goIf_split (fun h1 => ?_) (fun h1 => ?_) <;> simp only [h1, go_sem, reduceIte, Nat.reduceAdd, Nat.reduceMul, Nat.reduceSub, Nat.reduceEqDiff, Nat.reduceLeDiff, Nat.reduceLT, reduceCtorEq, Nat.succ_eq_add_one]
  · have e : validV c ms ep ≠ 0 := by simpa using h1
    rw [if_pos e]
    exact Fin.mk0 _ rfl rfl (by simp only [retOne, rv, rvL, encM, List.map_nil, go_sem, reduceIte, Nat.reduceAdd, Nat.reduceMul, Nat.reduceSub, Nat.reduceEqDiff, Nat.reduceLeDiff, Nat.reduceLT, reduceCtorEq, Nat.succ_eq_add_one])
  have e : validV c ms ep = 0 := by simpa using h1
  rw [if_neg (show ¬ validV c ms ep ≠ 0 from fun h => h e)]
  refine goCallE (fn81 ms hl) rfl rfl (by simp) rfl ?_
  simp only [obsFrom, sh, Int.cast_ofNat_Int, Int.reduceBEq, Int.reduceLT, Int.reduceLE, Int.reduceSub, Int.reduceAdd, Int.reduceNeg, Int.reduceEq, Int.reduceToNat, decide_true, decide_false, decide_eq_true_eq, beq_self_eq_true, bne_self_eq_false, List.reduceReplicate, List.length_set, List.length_replicate, List.length_cons, List.length_nil, List.set_cons_zero, List.set_cons_succ, Int.toNat_natCast, go_sem, reduceIte, Nat.reduceAdd, Nat.reduceMul, Nat.reduceSub, Nat.reduceEqDiff, Nat.reduceLeDiff, Nat.reduceLT, reduceCtorEq, Nat.succ_eq_add_one]
  refine goCallG (fn80 ms ep hl) [16] [112] (slM (keep ep ms)) [[I ep]] [] (by simp [rvL, rv, inS, get]) (by simp [boxG, rvL, rv, get]) (by simp [rowG, get, isRow]) rfl (by simp [outB, rvL, rv]) (by simp [outE]) (by simp [rv]) ?_
  have hk := keep_le ep ms
  simp only [obsFrom, boxesAt, kills_cons, kills_nil, w64 (show -9223372036854775808 ≤ (ms.length : Int) - (keep ep ms).length ∧ (ms.length : Int) - (keep ep ms).length ≤ 9223372036854775807 by omega), Int.cast_ofNat_Int, Int.reduceBEq, Int.reduceLT, Int.reduceLE, Int.reduceSub, Int.reduceAdd, Int.reduceNeg, Int.reduceEq, Int.reduceToNat, decide_true, decide_false, decide_eq_true_eq, beq_self_eq_true, bne_self_eq_false, List.reduceReplicate, List.length_set, List.length_replicate, List.length_cons, List.length_nil, List.set_cons_zero, List.set_cons_succ, Int.toNat_natCast, go_sem, reduceIte, Nat.reduceAdd, Nat.reduceMul, Nat.reduceSub, Nat.reduceEqDiff, Nat.reduceLeDiff, Nat.reduceLT, reduceCtorEq, Nat.succ_eq_add_one]
  exact ⟨rfl, Fin.mk0 _ rfl rfl (by simp only [retOne, rv, rvL, encM_takeL, encM_len, List.drop_zero, List.take_length, go_sem, reduceIte, Nat.reduceAdd, Nat.reduceMul, Nat.reduceSub, Nat.reduceEqDiff, Nat.reduceLeDiff, Nat.reduceLT, reduceCtorEq, Nat.succ_eq_add_one])⟩

theorem fn45n (k : Int) (h1 : ¬ k < 1) (h2 : ¬ 24 < k) : Fn Try.prog 45 [I k] [] (.tup [.agg [I k, Nl], I 0]) [] [] := by
  refine Fn.of_go ok45 (by simp) ?_
  unfold s45
  simp only [h1, h2, decide_false, go_sem, reduceIte, Nat.reduceAdd, Nat.reduceMul, Nat.reduceSub, Nat.reduceEqDiff, Nat.reduceLeDiff, Nat.reduceLT, reduceCtorEq, Nat.succ_eq_add_one]
  exact Fin.mk0 _ rfl rfl (by simp only [retOne, rv, rvL, go_sem, reduceIte, Nat.reduceAdd, Nat.reduceMul, Nat.reduceSub, Nat.reduceEqDiff, Nat.reduceLeDiff, Nat.reduceLT, reduceCtorEq, Nat.succ_eq_add_one])

/-- What the reader's store has after j of its K messages. -/
def dfl (l : List Int) (K a : Nat) : Nat → List Msg × Nat
  | 0 => ([], a)
  | j + 1 => ((dfl l K a j).1 ++ [msgV l (dfl l K a j).2 (50 + (K - j : Nat)) 0 65535], msgN l (dfl l K a j).2)
theorem dfl_len (l : List Int) (K a : Nat) : ∀ j, (dfl l K a j).1.length = j
  | 0 => rfl
  | j + 1 => by simp [dfl, dfl_len l K a j]
def dedK (l : List Int) (a : Nat) (c : Int) : Nat := (nV l a (c + 1)).toNat
def dedM (l : List Int) (a : Nat) (c : Int) : List Msg := (dfl l (dedK l a c) (nN l a (c + 1)) (dedK l a c)).1
def dedN (l : List Int) (a : Nat) (c : Int) : Nat := (dfl l (dedK l a c) (nN l a (c + 1)) (dedK l a c)).2
def dflS (l : List Int) (K a : Nat) (c : Int) (j : {j : Nat // j ≤ K}) : St :=
  ⟨2000, [(0, .ptr 0 0), (4, .ptr 8 0), (5, .ptr 56 0), (7, I (K - j.1 : Nat))], [(0, .box (srcB l (dfl l K a j.1).2)), (56, .box [I c, .own 1500 7 0 j.1]), (8, .box [I 0, Nl]), (1500, .row 44 7 (encM (dfl l K a j.1).1))]⟩
theorem fn79 (l : List Int) (a : Nat) (c : Int) (hl : l.length ≤ 4000) (h1 : 1 ≤ c) (h2 : c ≤ 8) : Fn Try.prog 79 [.ptr 0 0, I c] [srcB l a] (deadA c (dedM l a c)) [srcB l (dedN l a c)] [] := by
  refine Fn.of_go ok79 (by simp) ?_
  unfold s79
  simp only [Int.cast_ofNat_Int, Int.reduceBEq, Int.reduceLT, Int.reduceLE, Int.reduceSub, Int.reduceAdd, Int.reduceNeg, Int.reduceEq, Int.reduceToNat, decide_true, decide_false, decide_eq_true_eq, beq_self_eq_true, bne_self_eq_false, List.reduceReplicate, List.length_set, List.length_replicate, List.length_cons, List.length_nil, List.set_cons_zero, List.set_cons_succ, Int.toNat_natCast, go_sem, reduceIte, Nat.reduceAdd, Nat.reduceMul, Nat.reduceSub, Nat.reduceEqDiff, Nat.reduceLeDiff, Nat.reduceLT, reduceCtorEq, Nat.succ_eq_add_one]
  refine goCall0 (fn45n c (by omega) (by omega)) rfl rfl ?_
  simp only [Int.cast_ofNat_Int, Int.reduceBEq, Int.reduceLT, Int.reduceLE, Int.reduceSub, Int.reduceAdd, Int.reduceNeg, Int.reduceEq, Int.reduceToNat, decide_true, decide_false, decide_eq_true_eq, beq_self_eq_true, bne_self_eq_false, List.reduceReplicate, List.length_set, List.length_replicate, List.length_cons, List.length_nil, List.set_cons_zero, List.set_cons_succ, Int.toNat_natCast, go_sem, reduceIte, Nat.reduceAdd, Nat.reduceMul, Nat.reduceSub, Nat.reduceEqDiff, Nat.reduceLeDiff, Nat.reduceLT, reduceCtorEq, Nat.succ_eq_add_one]
  have k0 := nV_lo l a (c + 1)
  have k3 := nV_hi l a (n := c + 1) (by omega)
  have e4 : IntKind.i64.wrap (c + 1) = c + 1 := w64 (by omega)
  simp only [e4, Int.cast_ofNat_Int, Int.reduceBEq, Int.reduceLT, Int.reduceLE, Int.reduceSub, Int.reduceAdd, Int.reduceNeg, Int.reduceEq, Int.reduceToNat, decide_true, decide_false, decide_eq_true_eq, beq_self_eq_true, bne_self_eq_false, List.reduceReplicate, List.length_set, List.length_replicate, List.length_cons, List.length_nil, List.set_cons_zero, List.set_cons_succ, Int.toNat_natCast, go_sem, reduceIte, Nat.reduceAdd, Nat.reduceMul, Nat.reduceSub, Nat.reduceEqDiff, Nat.reduceLeDiff, Nat.reduceLT, reduceCtorEq, Nat.succ_eq_add_one]
  refine goCall1 (b := 0) (fn29 l a (c + 1) hl (by omega)) ⟨rfl, ⟨rfl, rfl⟩, trivial⟩ rfl rfl rfl rfl ?_
  unfold dedM dedN
  have e5 : nV l a (c + 1) = (dedK l a c : Int) := by unfold dedK; omega
  simp only [e4, e5, Int.cast_ofNat_Int, Int.reduceBEq, Int.reduceLT, Int.reduceLE, Int.reduceSub, Int.reduceAdd, Int.reduceNeg, Int.reduceEq, Int.reduceToNat, decide_true, decide_false, decide_eq_true_eq, beq_self_eq_true, bne_self_eq_false, List.reduceReplicate, List.length_set, List.length_replicate, List.length_cons, List.length_nil, List.set_cons_zero, List.set_cons_succ, Int.toNat_natCast, go_sem, reduceIte, Nat.reduceAdd, Nat.reduceMul, Nat.reduceSub, Nat.reduceEqDiff, Nat.reduceLeDiff, Nat.reduceLT, reduceCtorEq, Nat.succ_eq_add_one]
  have hK : dedK l a c ≤ 8 := by omega
  generalize dedK l a c = K at hK ⊢
  generalize nN l a (c + 1) = a0
  refine go_loop (dflS l K a0 c) (fun j => K - j.1) ⟨0, by omega⟩ (Wk.mk [(0, 0), (56, 56), (8, 8)] [1500] rfl rfl (by simp only [dflS, rvH, rvO, rvL, rv, dfl, go_sem, reduceIte, Nat.reduceAdd, Nat.reduceMul, Nat.reduceSub, Nat.reduceEqDiff, Nat.reduceLeDiff, Nat.reduceLT, reduceCtorEq, Nat.succ_eq_add_one]; try simp) (by simp only [dflS, rvN, dfl, encM, List.map_nil, go_sem, reduceIte, Nat.reduceAdd, Nat.reduceMul, Nat.reduceSub, Nat.reduceEqDiff, Nat.reduceLeDiff, Nat.reduceLT, reduceCtorEq, Nat.succ_eq_add_one]) (by simp only [dflS, rv, Int.cast_ofNat_Int, Int.reduceBEq, Int.reduceLT, Int.reduceLE, Int.reduceSub, Int.reduceAdd, Int.reduceNeg, Int.reduceEq, Int.reduceToNat, decide_true, decide_false, decide_eq_true_eq, beq_self_eq_true, bne_self_eq_false, List.reduceReplicate, List.length_set, List.length_replicate, List.length_cons, List.length_nil, List.set_cons_zero, List.set_cons_succ, Int.toNat_natCast, go_sem, reduceIte, Nat.reduceAdd, Nat.reduceMul, Nat.reduceSub, Nat.reduceEqDiff, Nat.reduceLeDiff, Nat.reduceLT, reduceCtorEq, Nat.succ_eq_add_one]; try simp)) ?_
  intro j B hB
  unfold dflS
  simp only [go_sem, reduceIte, Nat.reduceAdd, Nat.reduceMul, Nat.reduceSub, Nat.reduceEqDiff, Nat.reduceLeDiff, Nat.reduceLT, reduceCtorEq, Nat.succ_eq_add_one]
  refine goIf_split (fun h3 => ?_) (fun h3 => ?_) <;> simp only [h3, go_sem, reduceIte, Nat.reduceAdd, Nat.reduceMul, Nat.reduceSub, Nat.reduceEqDiff, Nat.reduceLeDiff, Nat.reduceLT, reduceCtorEq, Nat.succ_eq_add_one]
  · have e6 : j.1 < K := by simp only [decide_eq_true_eq] at h3; omega
    have e7 : IntKind.i64.wrap (50 + ((K - j.1 : Nat) : Int)) = 50 + ((K - j.1 : Nat) : Int) := w64 (by omega)
    have e8 : IntKind.i64.wrap (((K - j.1 : Nat) : Int) - 1) = ((K - (j.1 + 1) : Nat) : Int) := by rw [w64 (by omega)]; omega
    simp only [e7, Int.cast_ofNat_Int, Int.reduceBEq, Int.reduceLT, Int.reduceLE, Int.reduceSub, Int.reduceAdd, Int.reduceNeg, Int.reduceEq, Int.reduceToNat, decide_true, decide_false, decide_eq_true_eq, beq_self_eq_true, bne_self_eq_false, List.reduceReplicate, List.length_set, List.length_replicate, List.length_cons, List.length_nil, List.set_cons_zero, List.set_cons_succ, Int.toNat_natCast, go_sem, reduceIte, Nat.reduceAdd, Nat.reduceMul, Nat.reduceSub, Nat.reduceEqDiff, Nat.reduceLeDiff, Nat.reduceLT, reduceCtorEq, Nat.succ_eq_add_one]
    refine goCallD1 (b := 0) (fn30 l (dfl l K a0 j.1).2 (50 + ((K - j.1 : Nat) : Int)) 0 65535 hl) ⟨rfl, ⟨rfl, rfl⟩, ⟨rfl, rfl⟩, ⟨rfl, rfl⟩, trivial⟩ rfl rfl rfl rfl ?_
    simp only [e7, e8, Int.cast_ofNat_Int, Int.reduceBEq, Int.reduceLT, Int.reduceLE, Int.reduceSub, Int.reduceAdd, Int.reduceNeg, Int.reduceEq, Int.reduceToNat, decide_true, decide_false, decide_eq_true_eq, beq_self_eq_true, bne_self_eq_false, List.reduceReplicate, List.length_set, List.length_replicate, List.length_cons, List.length_nil, List.set_cons_zero, List.set_cons_succ, Int.toNat_natCast, go_sem, reduceIte, Nat.reduceAdd, Nat.reduceMul, Nat.reduceSub, Nat.reduceEqDiff, Nat.reduceLeDiff, Nat.reduceLT, reduceCtorEq, Nat.succ_eq_add_one]
    have hmax : j.1 + 1 ≤ maxLen := Nat.le_trans (show _ ≤ 25 by omega) (by decide)
    have e9 : (encM (dfl l K a0 j.1).1).take j.1 = encM (dfl l K a0 j.1).1 := by rw [List.take_of_length_le (by rw [encM_len, dfl_len]; omega)]
    refine ⟨⟨by omega, hmax, by rw [dfl_len]; omega⟩, rfl, hB _ ⟨j.1 + 1, e6⟩ (by simp only; omega) (Wk.mk [(0, 0), (56, 56), (8, 8), (1500, 2072)] [] rfl rfl (by simp only [dflS, dfl, rvH, rvO, rvL, rv, e9, encM_app, encM_one, go_sem, reduceIte, Nat.reduceAdd, Nat.reduceMul, Nat.reduceSub, Nat.reduceEqDiff, Nat.reduceLeDiff, Nat.reduceLT, reduceCtorEq, Nat.succ_eq_add_one]) (by simp only [dflS, go_sem, reduceIte, Nat.reduceAdd, Nat.reduceMul, Nat.reduceSub, Nat.reduceEqDiff, Nat.reduceLeDiff, Nat.reduceLT, reduceCtorEq, Nat.succ_eq_add_one]) (by simp only [dflS, rv, Int.cast_ofNat_Int, Int.reduceBEq, Int.reduceLT, Int.reduceLE, Int.reduceSub, Int.reduceAdd, Int.reduceNeg, Int.reduceEq, Int.reduceToNat, decide_true, decide_false, decide_eq_true_eq, beq_self_eq_true, bne_self_eq_false, List.reduceReplicate, List.length_set, List.length_replicate, List.length_cons, List.length_nil, List.set_cons_zero, List.set_cons_succ, Int.toNat_natCast, go_sem, reduceIte, Nat.reduceAdd, Nat.reduceMul, Nat.reduceSub, Nat.reduceEqDiff, Nat.reduceLeDiff, Nat.reduceLT, reduceCtorEq, Nat.succ_eq_add_one]))⟩
  · have e6 : j.1 = K := by have := j.2; simp only [decide_eq_false_iff_not] at h3; omega
    rw [e6]
    refine Fin.mk1 _ rfl rfl rfl (by simp [rvL, rv]) ?_
    simp only [retOne, rv, rvL, encM_takeL, encM_len, dfl_len, List.drop_zero, List.take_length, go_sem, reduceIte, Nat.reduceAdd, Nat.reduceMul, Nat.reduceSub, Nat.reduceEqDiff, Nat.reduceLeDiff, Nat.reduceLT, reduceCtorEq, Nat.succ_eq_add_one]
    exact ⟨by simp, by omega, by rw [List.take_of_length_le (by rw [encM_len, dfl_len]; omega)]⟩

theorem dfl_fit (l : List Int) (K a : Nat) (hK : K ≤ 8) : ∀ j, j ≤ K → (∀ m ∈ (dfl l K a j).1, m.ok ∧ 50 + ((K - j : Nat) : Int) < m.id) ∧ (ids (dfl l K a j).1).Nodup
  | 0, _ => by simp [dfl, ids]
  | j + 1, hj => by
    obtain ⟨h1, h2⟩ := dfl_fit l K a hK j (by omega)
    have hm := msgV_ok l (dfl l K a j).2 (id := 50 + (K - j : Nat)) (lo := 0) (hi := 65535) (by omega) (by omega) (by omega) (by omega) (by omega)
    have hid : (msgV l (dfl l K a j).2 (50 + (K - j : Nat)) 0 65535).id = 50 + (K - j : Nat) := rfl
    simp only [dfl]
    generalize msgV l (dfl l K a j).2 (50 + (K - j : Nat)) 0 65535 = m at hm hid
    refine ⟨fun x hx => ?_, ?_⟩
    · rcases List.mem_append.1 hx with h3 | h3
      · have := h1 x h3
        exact ⟨this.1, by have := this.2; omega⟩
      · simp at h3; subst h3; exact ⟨hm, by omega⟩
    · simp only [ids, List.map_append, List.map_cons, List.map_nil, List.nodup_append]
      refine ⟨h2, by simp, fun a ha b hb => ?_⟩
      simp only [List.mem_singleton] at hb
      obtain ⟨x, hx, rfl⟩ := List.mem_map.1 ha
      have := (h1 x hx).2
      omega
theorem dedK_le (l : List Int) (a : Nat) {c : Int} (h1 : 1 ≤ c) : (dedK l a c : Int) ≤ c := by
  have k0 := nV_lo l a (c + 1)
  have k3 := nV_hi l a (n := c + 1) (by omega)
  unfold dedK
  omega
theorem dedM_fit (l : List Int) (a : Nat) {c : Int} (h1 : 1 ≤ c) (h2 : c ≤ 8) : Fit c 100 (dedM l a c) := by
  have hK := dedK_le l a h1
  unfold dedM
  obtain ⟨h3, h4⟩ := dfl_fit l (dedK l a c) (nN l a (c + 1)) (by omega) _ (Nat.le_refl _)
  have h5 : ∀ j, j ≤ dedK l a c → ∀ m ∈ (dfl l (dedK l a c) (nN l a (c + 1)) j).1, m.id < 100 := by
    intro j
    induction j with
    | zero => intro _ m hm; simp [dfl] at hm
    | succ j ih =>
      intro hj m hm
      simp only [dfl] at hm
      rcases List.mem_append.1 hm with h | h
      · exact ih (by omega) m h
      · simp only [List.mem_singleton] at h; subst h; show 50 + ((dedK l a c - j : Nat) : Int) < 100; omega
  exact ⟨fun m hm => (h3 m hm).1, h4, h5 _ (Nat.le_refl _), by rw [dfl_len]; exact hK⟩

/-- A store of the reader's. -/
def stC (l : List Int) (a : Nat) : Int := rgV l a 1 8
def stM (l : List Int) (a : Nat) : List Msg := dedM l (rgN l a 1 8) (stC l a)
def stN (l : List Int) (a : Nat) : Nat := dedN l (rgN l a 1 8) (stC l a)
theorem stC_in (l : List Int) (a : Nat) : 1 ≤ stC l a ∧ stC l a ≤ 8 := ⟨rgV_lo _ _ _ _, rgV_hi _ _ (by omega)⟩
theorem fn40 (l : List Int) (a : Nat) (hl : l.length ≤ 4000) : Fn Try.prog 40 [.ptr 0 0] [srcB l a] (deadA (stC l a) (stM l a)) [srcB l (stN l a)] [] := by
  refine Fn.of_go ok40 (by simp) ?_
  unfold s40
  simp only [Int.cast_ofNat_Int, Int.reduceBEq, Int.reduceLT, Int.reduceLE, Int.reduceSub, Int.reduceAdd, Int.reduceNeg, Int.reduceEq, Int.reduceToNat, decide_true, decide_false, decide_eq_true_eq, beq_self_eq_true, bne_self_eq_false, List.reduceReplicate, List.length_set, List.length_replicate, List.length_cons, List.length_nil, List.set_cons_zero, List.set_cons_succ, Int.toNat_natCast, go_sem, reduceIte, Nat.reduceAdd, Nat.reduceMul, Nat.reduceSub, Nat.reduceEqDiff, Nat.reduceLeDiff, Nat.reduceLT, reduceCtorEq, Nat.succ_eq_add_one]
  refine goCall1 (b := 0) (fn27 l a 1 8 hl (by omega) (by omega)) ⟨rfl, ⟨rfl, rfl⟩, ⟨rfl, rfl⟩, trivial⟩ rfl rfl rfl rfl ?_
  simp only [Int.cast_ofNat_Int, Int.reduceBEq, Int.reduceLT, Int.reduceLE, Int.reduceSub, Int.reduceAdd, Int.reduceNeg, Int.reduceEq, Int.reduceToNat, decide_true, decide_false, decide_eq_true_eq, beq_self_eq_true, bne_self_eq_false, List.reduceReplicate, List.length_set, List.length_replicate, List.length_cons, List.length_nil, List.set_cons_zero, List.set_cons_succ, Int.toNat_natCast, go_sem, reduceIte, Nat.reduceAdd, Nat.reduceMul, Nat.reduceSub, Nat.reduceEqDiff, Nat.reduceLeDiff, Nat.reduceLT, reduceCtorEq, Nat.succ_eq_add_one]
  refine goCall1 (b := 0) (fn79 l (rgN l a 1 8) (rgV l a 1 8) hl (stC_in l a).1 (stC_in l a).2) ⟨rfl, ⟨rfl, rfl⟩, trivial⟩ rfl rfl rfl rfl ?_
  simp only [Int.cast_ofNat_Int, Int.reduceBEq, Int.reduceLT, Int.reduceLE, Int.reduceSub, Int.reduceAdd, Int.reduceNeg, Int.reduceEq, Int.reduceToNat, decide_true, decide_false, decide_eq_true_eq, beq_self_eq_true, bne_self_eq_false, List.reduceReplicate, List.length_set, List.length_replicate, List.length_cons, List.length_nil, List.set_cons_zero, List.set_cons_succ, Int.toNat_natCast, go_sem, reduceIte, Nat.reduceAdd, Nat.reduceMul, Nat.reduceSub, Nat.reduceEqDiff, Nat.reduceLeDiff, Nat.reduceLT, reduceCtorEq, Nat.succ_eq_add_one]
  exact Fin.mk1 _ rfl rfl rfl (by simp [rvL, rv, stN, stC]) (by simp only [retOne, rv, rvL, encM_takeL, encM_len, List.drop_zero, List.take_length, stM, stC, go_sem, reduceIte, Nat.reduceAdd, Nat.reduceMul, Nat.reduceSub, Nat.reduceEqDiff, Nat.reduceLeDiff, Nat.reduceLT, reduceCtorEq, Nat.succ_eq_add_one])
end Go.Eng
