/-
  Walks and plain lemmas for RingBuilt: what the functions named below compute, over the abstract states of the engine.
  No condition beyond those that each theorem states.
-/
import Derived.Test.YteonhcjaekodkaaRng6
set_option linter.all false
set_option linter.unusedSimpArgs false
set_option maxRecDepth 20000
set_option maxHeartbeats 4000000
namespace Go.Eng
open Go Go.Proofs

theorem val_ok {m : Msg} (h : m.ok) : m.val = 0 := by
  obtain ⟨h1, h2, h3, h4, h5, h6, h7⟩ := h
  have : m.good = true := by
    simp only [Msg.good, btw, Bool.and_eq_true, decide_eq_true_eq]
    omega
  simp only [Msg.val, this, if_true]
  rw [if_neg (by omega)]
theorem invL_ok {ms : List Msg} (h : ∀ m ∈ ms, m.ok) : invL ms = 0 := by
  induction ms with
  | nil => rfl
  | cons m ms ih =>
    have h1 := val_ok (h m (by simp))
    simp only [invL, h1, ne_eq, not_true_eq_false, if_false]
    exact ih fun x hx => h x (by simp [hx])
theorem sndV_ok {ms : List Msg} (h : ∀ m ∈ ms, m.ok) (hn : (ids ms).Nodup) : sndV ms = 0 := by
  have : dup ms = false := by simp [dup, hn]
  simp only [sndV, invL_ok h, this, ne_eq, not_true_eq_false, if_false]
  rfl

theorem roomE_ok {n h : Nat} {l : List Msg} {m : Msg} (rg : Rg n h l) (hm : m.val = 0) (hl : l.length < n) (hi : m.id ∉ ids l) : roomE (rcs n h l) h l.length m = 0 := by
  unfold roomE
  rw [if_neg (by simp [rg.ok]), if_neg (by simp [hm]), if_neg (by rw [rcs_len]; omega), Int.toNat_natCast, Int.toNat_natCast, ordL_rcs rg.ll rg.hh, if_neg]
  unfold idxV
  rw [if_neg hi]
  omega
theorem pushB_ok {n h : Nat} {l : List Msg} {m : Msg} (rg : Rg n h l) (hm : m.val = 0) (hl : l.length < n) (hi : m.id ∉ ids l) : pushBA (rcs n h l) h l.length m = .tup [ringC n h (l ++ [m]), I 0] := by
  unfold pushBA
  rw [if_neg (by simp [roomE_ok rg hm hl hi]), rcs_len, Int.toNat_natCast, Int.toNat_natCast, ordL_rcs rg.ll rg.hh]
theorem pushF_ok {n h : Nat} {l : List Msg} {m : Msg} (rg : Rg n h l) (hm : m.val = 0) (hl : l.length < n) (hi : m.id ∉ ids l) : pushFA (rcs n h l) h l.length m = .tup [ringC n ((h + (n - 1)) % n) (m :: l), I 0] := by
  unfold pushFA
  rw [if_neg (by simp [roomE_ok rg hm hl hi]), rcs_len, Int.toNat_natCast, Int.toNat_natCast, ordL_rcs rg.ll rg.hh]

structure RS where
  h : Nat
  l : List Msg
  a : Nat
def rsStep (n : Nat) (L : List Int) (id lo hi : Int) (q : RS) : RS :=
  if nV L q.a 2 = 0 then ⟨q.h, q.l ++ [msgV L (nN L q.a 2) id lo hi], msgN L (nN L q.a 2)⟩ else ⟨(q.h + (n - 1)) % n, msgV L (nN L q.a 2) id lo hi :: q.l, msgN L (nN L q.a 2)⟩
def rsI (n : Nat) (L : List Int) (id lo hi : Int) (q : RS) : Nat → RS
  | 0 => q
  | j + 1 => rsStep n L (id + j) lo hi (rsI n L id lo hi q j)
structure RSok (n : Nat) (L : List Int) (id : Int) (j : Nat) (q : RS) : Prop where
  hh : q.h < n
  len : q.l.length = j
  ok : ∀ m ∈ q.l, m.ok
  lt : ∀ m ∈ q.l, id ≤ m.id ∧ m.id < id + j
  nd : (ids q.l).Nodup
  a : q.a ≤ L.length
theorem RSok.step {n : Nat} {L : List Int} {id lo hi : Int} {j : Nat} {q : RS} (h : RSok n L id j q) (h1 : 1 ≤ id) (h2 : id + j ≤ 1000000) (h3 : 0 ≤ lo) (h4 : lo ≤ hi) (h5 : hi < 65536) : RSok n L id (j + 1) (rsStep n L (id + j) lo hi q) := by
  have hm := msgV_ok L (nN L q.a 2) (id := id + j) (lo := lo) (hi := hi) (by omega) (by omega) h3 h4 h5
  have hid : (msgV L (nN L q.a 2) (id + j) lo hi).id = id + j := rfl
  have ha : msgN L (nN L q.a 2) ≤ L.length := msgN_le (nN_le h.a)
  have hn : 0 < n := by have := h.hh; omega
  unfold rsStep
  split
  · refine ⟨h.hh, by simp [h.len], fun m hm' => ?_, fun m hm' => ?_, ?_, ha⟩
    · rcases List.mem_append.1 hm' with h6 | h6
      · exact h.ok m h6
      · simp at h6; subst h6; exact hm
    · rcases List.mem_append.1 hm' with h6 | h6
      · have := h.lt m h6; omega
      · simp at h6; subst h6; rw [hid]; omega
    · simp only [ids, List.map_append, List.map_cons, List.map_nil, List.nodup_append]
      refine ⟨h.nd, by simp, fun a ha b hb => ?_⟩
      simp only [List.mem_singleton] at hb
      obtain ⟨x, hx, rfl⟩ := List.mem_map.1 ha
      have := h.lt x hx
      rw [hid] at hb
      omega
  · refine ⟨Nat.mod_lt _ hn, by simp [h.len], fun m hm' => ?_, fun m hm' => ?_, ?_, ha⟩
    · rcases List.mem_cons.1 hm' with h6 | h6
      · subst h6; exact hm
      · exact h.ok m h6
    · rcases List.mem_cons.1 hm' with h6 | h6
      · subst h6; rw [hid]; omega
      · have := h.lt m h6; omega
    · simp only [ids, List.map_cons, List.nodup_cons]
      refine ⟨fun hm' => ?_, h.nd⟩
      obtain ⟨x, hx, hx2⟩ := List.mem_map.1 hm'
      have := h.lt x hx
      rw [hid] at hx2
      omega
theorem rsI_ok {n : Nat} {L : List Int} {id lo hi : Int} {q : RS} (h : RSok n L id 0 q) (h1 : 1 ≤ id) (h3 : 0 ≤ lo) (h4 : lo ≤ hi) (h5 : hi < 65536) : ∀ j : Nat, id + j ≤ 1000000 → RSok n L id j (rsI n L id lo hi q j)
  | 0, _ => h
  | j + 1, h2 => (rsI_ok h h1 h3 h4 h5 j (by omega)).step h1 (by omega) h3 h4 h5
theorem RSok.rg {n : Nat} {L : List Int} {id : Int} {j : Nat} {q : RS} (h : RSok n L id j q) (h1 : n ≤ 12) (h2 : j ≤ n) : Rg n q.h q.l :=
  ⟨by have := h.hh; omega, h1, h.hh, by rw [h.len]; exact h2, sndV_ok h.ok h.nd⟩

/-- How many messages a ring of the reader's gets, and where it starts. -/
def roCnt (L : List Int) (a n : Nat) (k : Int) : Nat := (nV L (nN L a n) (min k n + 1)).toNat
def roS (L : List Int) (a n : Nat) (k : Int) : RS := ⟨(nV L a n).toNat, [], nN L (nN L a n) (min k n + 1)⟩
def roE (L : List Int) (a n : Nat) (k id lo hi : Int) : RS := rsI n L id lo hi (roS L a n k) (roCnt L a n k)
theorem roCnt_le (L : List Int) (a n : Nat) (k : Int) (hk : 0 ≤ k) : roCnt L a n k ≤ n ∧ (roCnt L a n k : Int) ≤ k := by
  have h0 := nV_lo L (nN L a n) (min k n + 1)
  have h1 := nV_hi L (nN L a n) (n := min k n + 1) (by omega)
  unfold roCnt
  omega
theorem roS_ok (L : List Int) (a n : Nat) (k id : Int) (hn : 1 ≤ n) (ha : a ≤ L.length) : RSok n L id 0 (roS L a n k) := by
  have h0 := nV_lo L a n
  have h1 := nV_hi L a (n := n) (by omega)
  exact ⟨by unfold roS; simp only; omega, rfl, by simp [roS], by simp [roS], by simp [roS, ids], nN_le (nN_le ha)⟩

def roSt (n : Nat) (L : List Int) (id lo hi : Int) (q : RS) (c : Nat) (j : {j : Nat // j ≤ c}) : St :=
  ⟨2000, [(0, .ptr 0 0), (3, I (id + j.1)), (4, I lo), (5, I hi), (12, .ptr 8 0), (13, .ptr 56 0), (15, I ((c : Int) - j.1))],
    [(0, .box (srcB L (rsI n L id lo hi q j.1).a)), (8, .box [Nl, Z', Z']), (56, .box [slM (rcs n (rsI n L id lo hi q j.1).h (rsI n L id lo hi q j.1).l), I (rsI n L id lo hi q j.1).h, I (rsI n L id lo hi q j.1).l.length])]⟩
theorem fn61 (L : List Int) (a n : Nat) (k id lo hi : Int) (hL : L.length ≤ 4000) (ha : a ≤ L.length) (hn : 1 ≤ n ∧ n ≤ 12) (hk : 0 ≤ k ∧ k ≤ 1000) (h1 : 1 ≤ id ∧ id ≤ 100000) (h3 : 0 ≤ lo) (h4 : lo ≤ hi) (h5 : hi < 65536) :
    Fn Try.prog 61 [.ptr 0 0, I n, I k, I id, I lo, I hi] [srcB L a] (ringC n (roE L a n k id lo hi).h (roE L a n k id lo hi).l) [srcB L (roE L a n k id lo hi).a] [] := by
  refine Fn.of_go ok61 (by simp) ?_
  unfold s61
  have e1 : newR n = .tup [ringC n 0 [], I 0] := by unfold newR; rw [if_neg (by omega), if_neg (by omega), Int.toNat_natCast]
  have hF := fn49 n
  rw [e1] at hF
  simp only [Int.cast_ofNat_Int, Int.reduceBEq, Int.reduceLT, Int.reduceLE, Int.reduceSub, Int.reduceAdd, Int.reduceNeg, Int.reduceEq, Int.reduceToNat, decide_true, decide_false, decide_eq_true_eq, beq_self_eq_true, bne_self_eq_false, List.reduceReplicate, List.length_set, List.length_replicate, List.length_cons, List.length_nil, List.set_cons_zero, List.set_cons_succ, Int.toNat_natCast, go_sem, reduceIte, Nat.reduceAdd, Nat.reduceMul, Nat.reduceSub, Nat.reduceEqDiff, Nat.reduceLeDiff, Nat.reduceLT, reduceCtorEq, Nat.succ_eq_add_one]
  refine goCall0 hF rfl rfl ?_
  simp only [Int.cast_ofNat_Int, Int.reduceBEq, Int.reduceLT, Int.reduceLE, Int.reduceSub, Int.reduceAdd, Int.reduceNeg, Int.reduceEq, Int.reduceToNat, decide_true, decide_false, decide_eq_true_eq, beq_self_eq_true, bne_self_eq_false, List.reduceReplicate, List.length_set, List.length_replicate, List.length_cons, List.length_nil, List.set_cons_zero, List.set_cons_succ, Int.toNat_natCast, go_sem, reduceIte, Nat.reduceAdd, Nat.reduceMul, Nat.reduceSub, Nat.reduceEqDiff, Nat.reduceLeDiff, Nat.reduceLT, reduceCtorEq, Nat.succ_eq_add_one]
  refine goCall1 (b := 0) (fn29 L a n hL (by omega)) ⟨rfl, ⟨rfl, rfl⟩, trivial⟩ rfl rfl rfl rfl ?_
  have e2 : IntKind.i64.wrap (min k n + 1) = min k n + 1 := w64 (by omega)
  simp only [e2, Int.cast_ofNat_Int, Int.reduceBEq, Int.reduceLT, Int.reduceLE, Int.reduceSub, Int.reduceAdd, Int.reduceNeg, Int.reduceEq, Int.reduceToNat, decide_true, decide_false, decide_eq_true_eq, beq_self_eq_true, bne_self_eq_false, List.reduceReplicate, List.length_set, List.length_replicate, List.length_cons, List.length_nil, List.set_cons_zero, List.set_cons_succ, Int.toNat_natCast, go_sem, reduceIte, Nat.reduceAdd, Nat.reduceMul, Nat.reduceSub, Nat.reduceEqDiff, Nat.reduceLeDiff, Nat.reduceLT, reduceCtorEq, Nat.succ_eq_add_one]
  refine goCall1 (b := 0) (fn29 L (nN L a n) (min k n + 1) hL (by omega)) ⟨rfl, ⟨rfl, rfl⟩, trivial⟩ rfl rfl rfl rfl ?_
  simp only [Int.cast_ofNat_Int, Int.reduceBEq, Int.reduceLT, Int.reduceLE, Int.reduceSub, Int.reduceAdd, Int.reduceNeg, Int.reduceEq, Int.reduceToNat, decide_true, decide_false, decide_eq_true_eq, beq_self_eq_true, bne_self_eq_false, List.reduceReplicate, List.length_set, List.length_replicate, List.length_cons, List.length_nil, List.set_cons_zero, List.set_cons_succ, Int.toNat_natCast, go_sem, reduceIte, Nat.reduceAdd, Nat.reduceMul, Nat.reduceSub, Nat.reduceEqDiff, Nat.reduceLeDiff, Nat.reduceLT, reduceCtorEq, Nat.succ_eq_add_one]
  have hc0 := nV_lo L (nN L a n) (min k n + 1)
  have hcnt : nV L (nN L a n) (min k n + 1) = (roCnt L a n k : Int) := by unfold roCnt; omega
  have hcle := roCnt_le L a n k hk.1
  have hh0 := nV_lo L a n
  have hh1 : nV L a n = ((roS L a n k).h : Int) := by unfold roS; simp only; omega
  have e3 : rcs n 0 [] = rcs n (roS L a n k).h (roS L a n k).l := by unfold roS; rw [rcs_nil, rcs_nil]
  refine go_loop (roSt n L id lo hi (roS L a n k) (roCnt L a n k)) (fun j => roCnt L a n k - j.1) ⟨0, by omega⟩
    (Wk.mk [(0, 0), (8, 8), (56, 56)] [] rfl rfl (by simp only [roSt, rsI, rvH, rvO, rvL, rv, ← e3, hh1, go_sem, reduceIte, Nat.reduceAdd, Nat.reduceMul, Nat.reduceSub, Nat.reduceEqDiff, Nat.reduceLeDiff, Nat.reduceLT, reduceCtorEq, Nat.succ_eq_add_one]; exact ⟨rfl, rfl⟩) (by simp only [roSt, go_sem, reduceIte, Nat.reduceAdd, Nat.reduceMul, Nat.reduceSub, Nat.reduceEqDiff, Nat.reduceLeDiff, Nat.reduceLT, reduceCtorEq, Nat.succ_eq_add_one]) (by simp only [roSt, rv, hcnt, Int.cast_ofNat_Int, Int.reduceBEq, Int.reduceLT, Int.reduceLE, Int.reduceSub, Int.reduceAdd, Int.reduceNeg, Int.reduceEq, Int.reduceToNat, decide_true, decide_false, decide_eq_true_eq, beq_self_eq_true, bne_self_eq_false, List.reduceReplicate, List.length_set, List.length_replicate, List.length_cons, List.length_nil, List.set_cons_zero, List.set_cons_succ, Int.toNat_natCast, go_sem, reduceIte, Nat.reduceAdd, Nat.reduceMul, Nat.reduceSub, Nat.reduceEqDiff, Nat.reduceLeDiff, Nat.reduceLT, reduceCtorEq, Nat.succ_eq_add_one]; simp)) ?_
  intro j B hB
  have hj := j.2
  have hq := rsI_ok (roS_ok L a n k id hn.1 ha) h1.1 h3 h4 h5 j.1 (by omega)
  have hrg := hq.rg hn.2 (by omega)
  have hnx : rsI n L id lo hi (roS L a n k) (j.1 + 1) = rsStep n L (id + j.1) lo hi (rsI n L id lo hi (roS L a n k) j.1) := rfl
  unfold roSt
  simp only [go_sem, reduceIte, Nat.reduceAdd, Nat.reduceMul, Nat.reduceSub, Nat.reduceEqDiff, Nat.reduceLeDiff, Nat.reduceLT, reduceCtorEq, Nat.succ_eq_add_one]
  refine goIf_split (fun h6 => ?_) (fun h6 => ?_) <;> simp only [h6, go_sem, reduceIte, Nat.reduceAdd, Nat.reduceMul, Nat.reduceSub, Nat.reduceEqDiff, Nat.reduceLeDiff, Nat.reduceLT, reduceCtorEq, Nat.succ_eq_add_one]
  · have e1 : j.1 < roCnt L a n k := by simp only [decide_eq_true_eq] at h6; omega
    generalize rsI n L id lo hi (roS L a n k) j.1 = q at hq hrg hnx ⊢
    have hql := hq.len
    have hm := msgV_ok L (nN L q.a 2) (id := id + j.1) (lo := lo) (hi := hi) (by omega) (by omega) h3 h4 h5
    have hid : (msgV L (nN L q.a 2) (id + j.1) lo hi).id = id + j.1 := rfl
    have hni : id + j.1 ∉ ids q.l := fun hx => by
      obtain ⟨x, hx1, hx2⟩ := List.mem_map.1 hx
      have := hq.lt x hx1
      omega
    refine goCall1 (b := 0) (fn29 L q.a 2 hL (by omega)) ⟨rfl, ⟨rfl, rfl⟩, trivial⟩ rfl rfl rfl rfl ?_
    simp only [Int.cast_ofNat_Int, Int.reduceBEq, Int.reduceLT, Int.reduceLE, Int.reduceSub, Int.reduceAdd, Int.reduceNeg, Int.reduceEq, Int.reduceToNat, decide_true, decide_false, decide_eq_true_eq, beq_self_eq_true, bne_self_eq_false, List.reduceReplicate, List.length_set, List.length_replicate, List.length_cons, List.length_nil, List.set_cons_zero, List.set_cons_succ, Int.toNat_natCast, go_sem, reduceIte, Nat.reduceAdd, Nat.reduceMul, Nat.reduceSub, Nat.reduceEqDiff, Nat.reduceLeDiff, Nat.reduceLT, reduceCtorEq, Nat.succ_eq_add_one]
    have e5 : IntKind.i64.wrap (id + (j.1 : Int) + 1) = id + ((j.1 + 1 : Nat) : Int) := by rw [w64 (by omega)]; omega
    have e6 : IntKind.i64.wrap ((roCnt L a n k : Int) - (j.1 : Int) - 1) = (roCnt L a n k : Int) - ((j.1 + 1 : Nat) : Int) := by rw [w64 (by omega)]; omega
    refine goIf_split (fun h7 => ?_) (fun h7 => ?_) <;> simp only [h7, go_sem, reduceIte, Nat.reduceAdd, Nat.reduceMul, Nat.reduceSub, Nat.reduceEqDiff, Nat.reduceLeDiff, Nat.reduceLT, reduceCtorEq, Nat.succ_eq_add_one]
    · have hz : nV L q.a 2 = 0 := by simpa using h7
      have hst : rsStep n L (id + j.1) lo hi q = ⟨q.h, q.l ++ [msgV L (nN L q.a 2) (id + j.1) lo hi], msgN L (nN L q.a 2)⟩ := by unfold rsStep; rw [if_pos hz]
      rw [hst] at hnx
      refine goCallD1 (b := 0) (fn30 L (nN L q.a 2) (id + j.1) lo hi hL) ⟨rfl, ⟨rfl, rfl⟩, ⟨rfl, rfl⟩, ⟨rfl, rfl⟩, trivial⟩ rfl rfl rfl rfl ?_
      generalize msgV L (nN L q.a 2) (id + j.1) lo hi = m at hm hid hnx ⊢
      simp only [Int.cast_ofNat_Int, Int.reduceBEq, Int.reduceLT, Int.reduceLE, Int.reduceSub, Int.reduceAdd, Int.reduceNeg, Int.reduceEq, Int.reduceToNat, decide_true, decide_false, decide_eq_true_eq, beq_self_eq_true, bne_self_eq_false, List.reduceReplicate, List.length_set, List.length_replicate, List.length_cons, List.length_nil, List.set_cons_zero, List.set_cons_succ, Int.toNat_natCast, go_sem, reduceIte, Nat.reduceAdd, Nat.reduceMul, Nat.reduceSub, Nat.reduceEqDiff, Nat.reduceLeDiff, Nat.reduceLT, reduceCtorEq, Nat.succ_eq_add_one]
      have hF := fn90 (rcs n q.h q.l) q.h q.l.length m
      rw [pushB_ok hrg (val_ok hm) (by omega) (by rw [hid]; exact hni)] at hF
      refine goCallD0 hF rfl rfl ?_
      simp only [e5, e6, Int.cast_ofNat_Int, Int.reduceBEq, Int.reduceLT, Int.reduceLE, Int.reduceSub, Int.reduceAdd, Int.reduceNeg, Int.reduceEq, Int.reduceToNat, decide_true, decide_false, decide_eq_true_eq, beq_self_eq_true, bne_self_eq_false, List.reduceReplicate, List.length_set, List.length_replicate, List.length_cons, List.length_nil, List.set_cons_zero, List.set_cons_succ, Int.toNat_natCast, go_sem, reduceIte, Nat.reduceAdd, Nat.reduceMul, Nat.reduceSub, Nat.reduceEqDiff, Nat.reduceLeDiff, Nat.reduceLT, reduceCtorEq, Nat.succ_eq_add_one]
      exact ⟨rfl, hB _ ⟨j.1 + 1, e1⟩ (by simp only; omega) (Wk.mk [(0, 0), (8, 8), (56, 56)] [] rfl rfl (by simp only [roSt, hnx, rvH, rvO, rvL, rv, go_sem, reduceIte, Nat.reduceAdd, Nat.reduceMul, Nat.reduceSub, Nat.reduceEqDiff, Nat.reduceLeDiff, Nat.reduceLT, reduceCtorEq, Nat.succ_eq_add_one]) (by simp only [roSt, go_sem, reduceIte, Nat.reduceAdd, Nat.reduceMul, Nat.reduceSub, Nat.reduceEqDiff, Nat.reduceLeDiff, Nat.reduceLT, reduceCtorEq, Nat.succ_eq_add_one]) (by simp only [roSt, rv, go_sem, reduceIte, Nat.reduceAdd, Nat.reduceMul, Nat.reduceSub, Nat.reduceEqDiff, Nat.reduceLeDiff, Nat.reduceLT, reduceCtorEq, Nat.succ_eq_add_one]))⟩
    · have hz : ¬ nV L q.a 2 = 0 := by simpa using h7
      have hst : rsStep n L (id + j.1) lo hi q = ⟨(q.h + (n - 1)) % n, msgV L (nN L q.a 2) (id + j.1) lo hi :: q.l, msgN L (nN L q.a 2)⟩ := by unfold rsStep; rw [if_neg hz]
      rw [hst] at hnx
      refine goCallD1 (b := 0) (fn30 L (nN L q.a 2) (id + j.1) lo hi hL) ⟨rfl, ⟨rfl, rfl⟩, ⟨rfl, rfl⟩, ⟨rfl, rfl⟩, trivial⟩ rfl rfl rfl rfl ?_
      generalize msgV L (nN L q.a 2) (id + j.1) lo hi = m at hm hid hnx ⊢
      simp only [Int.cast_ofNat_Int, Int.reduceBEq, Int.reduceLT, Int.reduceLE, Int.reduceSub, Int.reduceAdd, Int.reduceNeg, Int.reduceEq, Int.reduceToNat, decide_true, decide_false, decide_eq_true_eq, beq_self_eq_true, bne_self_eq_false, List.reduceReplicate, List.length_set, List.length_replicate, List.length_cons, List.length_nil, List.set_cons_zero, List.set_cons_succ, Int.toNat_natCast, go_sem, reduceIte, Nat.reduceAdd, Nat.reduceMul, Nat.reduceSub, Nat.reduceEqDiff, Nat.reduceLeDiff, Nat.reduceLT, reduceCtorEq, Nat.succ_eq_add_one]
      have hF := fn91 (rcs n q.h q.l) q.h q.l.length m
      rw [pushF_ok hrg (val_ok hm) (by omega) (by rw [hid]; exact hni)] at hF
      refine goCallD0 hF rfl rfl ?_
      simp only [e5, e6, Int.cast_ofNat_Int, Int.reduceBEq, Int.reduceLT, Int.reduceLE, Int.reduceSub, Int.reduceAdd, Int.reduceNeg, Int.reduceEq, Int.reduceToNat, decide_true, decide_false, decide_eq_true_eq, beq_self_eq_true, bne_self_eq_false, List.reduceReplicate, List.length_set, List.length_replicate, List.length_cons, List.length_nil, List.set_cons_zero, List.set_cons_succ, Int.toNat_natCast, go_sem, reduceIte, Nat.reduceAdd, Nat.reduceMul, Nat.reduceSub, Nat.reduceEqDiff, Nat.reduceLeDiff, Nat.reduceLT, reduceCtorEq, Nat.succ_eq_add_one]
      exact ⟨rfl, hB _ ⟨j.1 + 1, e1⟩ (by simp only; omega) (Wk.mk [(0, 0), (8, 8), (56, 56)] [] rfl rfl (by simp only [roSt, hnx, rvH, rvO, rvL, rv, go_sem, reduceIte, Nat.reduceAdd, Nat.reduceMul, Nat.reduceSub, Nat.reduceEqDiff, Nat.reduceLeDiff, Nat.reduceLT, reduceCtorEq, Nat.succ_eq_add_one]) (by simp only [roSt, go_sem, reduceIte, Nat.reduceAdd, Nat.reduceMul, Nat.reduceSub, Nat.reduceEqDiff, Nat.reduceLeDiff, Nat.reduceLT, reduceCtorEq, Nat.succ_eq_add_one]) (by simp only [roSt, rv, go_sem, reduceIte, Nat.reduceAdd, Nat.reduceMul, Nat.reduceSub, Nat.reduceEqDiff, Nat.reduceLeDiff, Nat.reduceLT, reduceCtorEq, Nat.succ_eq_add_one]))⟩
  · have e1 : j.1 = roCnt L a n k := by simp only [decide_eq_false_iff_not] at h6; omega
    have hE : roE L a n k id lo hi = rsI n L id lo hi (roS L a n k) (roCnt L a n k) := rfl
    rw [hE]
    simp only [e1]
    exact Fin.eq1 _ rfl rfl rfl rfl rfl rfl rfl
end Go.Eng
