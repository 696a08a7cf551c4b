/-
  Walks and plain lemmas for ScriptTokens: what the functions named below compute, over the abstract states of the engine.
  No condition beyond those that each theorem states.
-/
import Derived.Test.YteonhcjaekodkaaTok5
set_option linter.all false
set_option linter.unusedSimpArgs false
set_option maxRecDepth 20000
set_option maxHeartbeats 4000000
namespace Go.Eng
open Go Go.Proofs

def encBB (hs : List (List UInt8)) : List (List AV) := hs.map fun b => [bsl b]
theorem encBB_len (hs : List (List UInt8)) : (encBB hs).length = hs.length := by simp [encBB]
theorem encBB_nth {hs : List (List UInt8)} {k : Nat} (h : k < hs.length) : nth (encBB hs) k = [bsl (hs[k]?.getD [])] := by simp [encBB, nth, h]
attribute [go_sem] encBB_len
def orE (b : List UInt8) (h : Hd) : List UInt8 := if h.ok then tokB h else b
def hdV (v : Int) (h : Hd) : Hd :=
  if v = 2 then ⟨h.id, h.gen + 1, h.route, h.hint⟩ else if v = 3 then ⟨h.id, h.gen - 1, h.route, h.hint⟩ else ⟨h.id, h.gen, (h.route + 1).tmod 65536, h.hint⟩
def tokV (v : Int) (b : List UInt8) : List UInt8 := match parse b with
  | none => b
  | some h => if v = 2 ∨ v = 3 ∨ v = 4 then orE b (hdV v h) else if v = 5 then flip b else b
def tokI (i : Int) (n : Nat) : Nat := ((max i 0).tmod n).toNat
def tokR (i v : Int) (raw : List UInt8) (hs : List (List UInt8)) : List UInt8 :=
  if v = 7 ∨ hs.length = 0 then raw else tokV v (hs[tokI i hs.length]?.getD [])
theorem tokV_no {v : Int} {b : List UInt8} (h : parse b = none) : tokV v b = b := by unfold tokV; rw [h]
theorem tokV_yes {v : Int} {b : List UInt8} {x : Hd} (h : parse b = some x) : tokV v b = if v = 2 ∨ v = 3 ∨ v = 4 then orE b (hdV v x) else if v = 5 then flip b else b := by unfold tokV; rw [h]
theorem parse_len {b : List UInt8} {x : Hd} (h : parse b = some x) : b.length = 16 := by
  unfold parse at h
  split at h
  · rename_i c; exact c.1
  · cases h

theorem encB_set (b : List UInt8) (k : Nat) (x : UInt8) : (encB b).set k [B8 x] = encB (b.set k x) := by simp [encB, List.map_set]
theorem xor1 (x : UInt8) : ((x.toNat ^^^ 1 : Nat) : Int) = (((x ^^^ 1).toNat : Nat) : Int) := rfl
theorem flip_len (b : List UInt8) : (flip b).length = b.length := by simp [flip]
theorem encB_flip {b : List UInt8} (hl : b.length = 16) : (encB b).set 15 [.v (.int .u8 ((byN b 15 ^^^ 1 : Nat) : Int))] = encB (flip b) := by
  unfold byN flip
  rw [xor1, hl]
  exact encB_set b 15 _
theorem b80 : ((8 : Int) != 0) = true := rfl
theorem fn55 (i v : Int) (raw : List UInt8) (hs : List (List UInt8)) : Fn Try.prog 55 [.agg [I i, I v, bsl raw], .sl 1 (encBB hs)] [] (bsl (tokR i v raw hs)) [] [] := by
  refine Fn.of_go ok55 (by simp) ?_
  unfold s55 tokR
  by_cases h7 : v = 7
  · have e7 : (v == 7) = true := by simp [h7]
    rw [if_pos (Or.inl h7)]
    simp only [e7, Int.cast_ofNat_Int, Int.reduceBEq, Int.reduceLT, Int.reduceLE, Int.reduceSub, Int.reduceAdd, Int.reduceNeg, Int.reduceEq, Int.reduceToNat, decide_true, decide_false, decide_eq_true_eq, beq_self_eq_true, bne_self_eq_false, List.reduceReplicate, List.length_set, List.length_replicate, List.length_cons, List.length_nil, List.set_cons_zero, List.set_cons_succ, Int.toNat_natCast, go_sem, reduceIte, Nat.reduceAdd, Nat.reduceMul, Nat.reduceSub, Nat.reduceEqDiff, Nat.reduceLeDiff, Nat.reduceLT, reduceCtorEq, Nat.succ_eq_add_one]
    exact Fin.eq0 _ rfl rfl rfl rfl
  have e7 : (v == 7) = false := by simp [h7]
  by_cases h0 : hs.length = 0
  · have e0 : ((hs.length : Int) == 0) = true := by simp [h0]
    rw [if_pos (Or.inr h0)]
    simp only [e7, e0, Int.cast_ofNat_Int, Int.reduceBEq, Int.reduceLT, Int.reduceLE, Int.reduceSub, Int.reduceAdd, Int.reduceNeg, Int.reduceEq, Int.reduceToNat, decide_true, decide_false, decide_eq_true_eq, beq_self_eq_true, bne_self_eq_false, List.reduceReplicate, List.length_set, List.length_replicate, List.length_cons, List.length_nil, List.set_cons_zero, List.set_cons_succ, Int.toNat_natCast, go_sem, reduceIte, Nat.reduceAdd, Nat.reduceMul, Nat.reduceSub, Nat.reduceEqDiff, Nat.reduceLeDiff, Nat.reduceLT, reduceCtorEq, Nat.succ_eq_add_one]
    exact Fin.eq0 _ rfl rfl rfl rfl
  have e0 : ((hs.length : Int) == 0) = false := by simp [h0]
  rw [if_neg (by omega)]
  have hm0 : 0 ≤ (max i 0).tmod (hs.length : Int) := Int.tmod_nonneg _ (by omega)
  have hm1 : (max i 0).tmod (hs.length : Int) < hs.length := Int.tmod_lt_of_pos _ (by omega)
  have hn : nth (encBB hs) ((max i 0).tmod (hs.length : Int)).toNat = [bsl (hs[tokI i hs.length]?.getD [])] := encBB_nth (by omega)
  simp only [e7, e0, hn, Int.cast_ofNat_Int, Int.reduceBEq, Int.reduceLT, Int.reduceLE, Int.reduceSub, Int.reduceAdd, Int.reduceNeg, Int.reduceEq, Int.reduceToNat, decide_true, decide_false, decide_eq_true_eq, beq_self_eq_true, bne_self_eq_false, List.reduceReplicate, List.length_set, List.length_replicate, List.length_cons, List.length_nil, List.set_cons_zero, List.set_cons_succ, Int.toNat_natCast, go_sem, reduceIte, Nat.reduceAdd, Nat.reduceMul, Nat.reduceSub, Nat.reduceEqDiff, Nat.reduceLeDiff, Nat.reduceLT, reduceCtorEq, Nat.succ_eq_add_one]
  refine ⟨by omega, ⟨hm0, hm1⟩, ?_⟩
  generalize hs[tokI i hs.length]?.getD [] = b
  have hF := fn56 b
  cases hp : parse b with
  | none =>
    rw [parR_no hp] at hF
    rw [tokV_no hp]
    refine goCall0 hF rfl rfl ?_; simp only [Hd.enc, b80, Int.cast_ofNat_Int, Int.reduceBEq, Int.reduceLT, Int.reduceLE, Int.reduceSub, Int.reduceAdd, Int.reduceNeg, Int.reduceEq, Int.reduceToNat, decide_true, decide_false, decide_eq_true_eq, beq_self_eq_true, bne_self_eq_false, List.reduceReplicate, List.length_set, List.length_replicate, List.length_cons, List.length_nil, List.set_cons_zero, List.set_cons_succ, Int.toNat_natCast, go_sem, reduceIte, Nat.reduceAdd, Nat.reduceMul, Nat.reduceSub, Nat.reduceEqDiff, Nat.reduceLeDiff, Nat.reduceLT, reduceCtorEq, Nat.succ_eq_add_one]
    exact Fin.eq0 _ rfl rfl rfl rfl
  | some x =>
    rw [parR_yes hp] at hF
    rw [tokV_yes hp]
    have ho := parse_ok hp
    have hl := parse_len hp
    obtain ⟨id, gen, route, hint⟩ := x
    obtain ⟨⟨a1, a2⟩, ⟨a3, a4⟩, ⟨a5, a6⟩, ⟨a7, a8⟩⟩ := ho
    simp only at a1 a2 a3 a4 a5 a6 a7 a8
    have w1 : IntKind.i64.wrap (gen + 1) = gen + 1 := w64 (by omega)
    have w2 : IntKind.i64.wrap (gen - 1) = gen - 1 := w64 (by omega)
    have w3 : IntKind.i64.wrap (route + 1) = route + 1 := w64 (by omega)
    refine goCall0 hF rfl rfl ?_
    simp only [Hd.enc, Int.cast_ofNat_Int, Int.reduceBEq, Int.reduceLT, Int.reduceLE, Int.reduceSub, Int.reduceAdd, Int.reduceNeg, Int.reduceEq, Int.reduceToNat, decide_true, decide_false, decide_eq_true_eq, beq_self_eq_true, bne_self_eq_false, List.reduceReplicate, List.length_set, List.length_replicate, List.length_cons, List.length_nil, List.set_cons_zero, List.set_cons_succ, Int.toNat_natCast, go_sem, reduceIte, Nat.reduceAdd, Nat.reduceMul, Nat.reduceSub, Nat.reduceEqDiff, Nat.reduceLeDiff, Nat.reduceLT, reduceCtorEq, Nat.succ_eq_add_one]
    have hE : ∀ h : Hd, encR h = if h.ok then .tup [bsl (tokB h), I 0] else .tup [Nl, I 1] := fun _ => rfl
    by_cases v2 : v = 2
    · have e2 : (v == 2) = true := by simp [v2]
      rw [if_pos (Or.inl v2)]
      simp only [e2, w1, hdV, v2, Int.cast_ofNat_Int, Int.reduceBEq, Int.reduceLT, Int.reduceLE, Int.reduceSub, Int.reduceAdd, Int.reduceNeg, Int.reduceEq, Int.reduceToNat, decide_true, decide_false, decide_eq_true_eq, beq_self_eq_true, bne_self_eq_false, List.reduceReplicate, List.length_set, List.length_replicate, List.length_cons, List.length_nil, List.set_cons_zero, List.set_cons_succ, Int.toNat_natCast, go_sem, reduceIte, Nat.reduceAdd, Nat.reduceMul, Nat.reduceSub, Nat.reduceEqDiff, Nat.reduceLeDiff, Nat.reduceLT, reduceCtorEq, Nat.succ_eq_add_one]
      have hG := fn97 ⟨id, gen + 1, route, hint⟩
      unfold orE
      rw [hE] at hG
      by_cases hk : Hd.ok ⟨id, gen + 1, route, hint⟩
      · rw [if_pos hk] at hG ⊢
        refine goCall0 hG rfl rfl ?_; simp only [Int.cast_ofNat_Int, Int.reduceBEq, Int.reduceLT, Int.reduceLE, Int.reduceSub, Int.reduceAdd, Int.reduceNeg, Int.reduceEq, Int.reduceToNat, decide_true, decide_false, decide_eq_true_eq, beq_self_eq_true, bne_self_eq_false, List.reduceReplicate, List.length_set, List.length_replicate, List.length_cons, List.length_nil, List.set_cons_zero, List.set_cons_succ, Int.toNat_natCast, go_sem, reduceIte, Nat.reduceAdd, Nat.reduceMul, Nat.reduceSub, Nat.reduceEqDiff, Nat.reduceLeDiff, Nat.reduceLT, reduceCtorEq, Nat.succ_eq_add_one]
        exact Fin.eq0 _ rfl rfl rfl rfl
      · rw [if_neg hk] at hG ⊢
        refine goCall0 hG rfl rfl ?_; simp only [b10, Int.cast_ofNat_Int, Int.reduceBEq, Int.reduceLT, Int.reduceLE, Int.reduceSub, Int.reduceAdd, Int.reduceNeg, Int.reduceEq, Int.reduceToNat, decide_true, decide_false, decide_eq_true_eq, beq_self_eq_true, bne_self_eq_false, List.reduceReplicate, List.length_set, List.length_replicate, List.length_cons, List.length_nil, List.set_cons_zero, List.set_cons_succ, Int.toNat_natCast, go_sem, reduceIte, Nat.reduceAdd, Nat.reduceMul, Nat.reduceSub, Nat.reduceEqDiff, Nat.reduceLeDiff, Nat.reduceLT, reduceCtorEq, Nat.succ_eq_add_one]
        exact Fin.eq0 _ rfl rfl rfl rfl
    have e2 : (v == 2) = false := by simp [v2]
    by_cases v3 : v = 3
    · have e3 : (v == 3) = true := by simp [v3]
      rw [if_pos (Or.inr (Or.inl v3))]
      simp only [e2, e3, w2, hdV, v3, Int.cast_ofNat_Int, Int.reduceBEq, Int.reduceLT, Int.reduceLE, Int.reduceSub, Int.reduceAdd, Int.reduceNeg, Int.reduceEq, Int.reduceToNat, decide_true, decide_false, decide_eq_true_eq, beq_self_eq_true, bne_self_eq_false, List.reduceReplicate, List.length_set, List.length_replicate, List.length_cons, List.length_nil, List.set_cons_zero, List.set_cons_succ, Int.toNat_natCast, go_sem, reduceIte, Nat.reduceAdd, Nat.reduceMul, Nat.reduceSub, Nat.reduceEqDiff, Nat.reduceLeDiff, Nat.reduceLT, reduceCtorEq, Nat.succ_eq_add_one]
      have hG := fn97 ⟨id, gen - 1, route, hint⟩
      unfold orE
      rw [hE] at hG
      by_cases hk : Hd.ok ⟨id, gen - 1, route, hint⟩
      · rw [if_pos hk] at hG ⊢
        refine goCall0 hG rfl rfl ?_; simp only [Int.cast_ofNat_Int, Int.reduceBEq, Int.reduceLT, Int.reduceLE, Int.reduceSub, Int.reduceAdd, Int.reduceNeg, Int.reduceEq, Int.reduceToNat, decide_true, decide_false, decide_eq_true_eq, beq_self_eq_true, bne_self_eq_false, List.reduceReplicate, List.length_set, List.length_replicate, List.length_cons, List.length_nil, List.set_cons_zero, List.set_cons_succ, Int.toNat_natCast, go_sem, reduceIte, Nat.reduceAdd, Nat.reduceMul, Nat.reduceSub, Nat.reduceEqDiff, Nat.reduceLeDiff, Nat.reduceLT, reduceCtorEq, Nat.succ_eq_add_one]
        exact Fin.eq0 _ rfl rfl rfl rfl
      · rw [if_neg hk] at hG ⊢
        refine goCall0 hG rfl rfl ?_; simp only [b10, Int.cast_ofNat_Int, Int.reduceBEq, Int.reduceLT, Int.reduceLE, Int.reduceSub, Int.reduceAdd, Int.reduceNeg, Int.reduceEq, Int.reduceToNat, decide_true, decide_false, decide_eq_true_eq, beq_self_eq_true, bne_self_eq_false, List.reduceReplicate, List.length_set, List.length_replicate, List.length_cons, List.length_nil, List.set_cons_zero, List.set_cons_succ, Int.toNat_natCast, go_sem, reduceIte, Nat.reduceAdd, Nat.reduceMul, Nat.reduceSub, Nat.reduceEqDiff, Nat.reduceLeDiff, Nat.reduceLT, reduceCtorEq, Nat.succ_eq_add_one]
        exact Fin.eq0 _ rfl rfl rfl rfl
    have e3 : (v == 3) = false := by simp [v3]
    by_cases v4 : v = 4
    · have e4 : (v == 4) = true := by simp [v4]
      rw [if_pos (Or.inr (Or.inr v4))]
      simp only [e2, e3, e4, w3, hdV, v4, Int.cast_ofNat_Int, Int.reduceBEq, Int.reduceLT, Int.reduceLE, Int.reduceSub, Int.reduceAdd, Int.reduceNeg, Int.reduceEq, Int.reduceToNat, decide_true, decide_false, decide_eq_true_eq, beq_self_eq_true, bne_self_eq_false, List.reduceReplicate, List.length_set, List.length_replicate, List.length_cons, List.length_nil, List.set_cons_zero, List.set_cons_succ, Int.toNat_natCast, go_sem, reduceIte, Nat.reduceAdd, Nat.reduceMul, Nat.reduceSub, Nat.reduceEqDiff, Nat.reduceLeDiff, Nat.reduceLT, reduceCtorEq, Nat.succ_eq_add_one]
      have hG := fn97 ⟨id, gen, (route + 1).tmod 65536, hint⟩
      unfold orE
      rw [hE] at hG
      refine ⟨by decide, ?_⟩
      by_cases hk : Hd.ok ⟨id, gen, (route + 1).tmod 65536, hint⟩
      · rw [if_pos hk] at hG ⊢
        refine goCall0 hG rfl rfl ?_; simp only [Int.cast_ofNat_Int, Int.reduceBEq, Int.reduceLT, Int.reduceLE, Int.reduceSub, Int.reduceAdd, Int.reduceNeg, Int.reduceEq, Int.reduceToNat, decide_true, decide_false, decide_eq_true_eq, beq_self_eq_true, bne_self_eq_false, List.reduceReplicate, List.length_set, List.length_replicate, List.length_cons, List.length_nil, List.set_cons_zero, List.set_cons_succ, Int.toNat_natCast, go_sem, reduceIte, Nat.reduceAdd, Nat.reduceMul, Nat.reduceSub, Nat.reduceEqDiff, Nat.reduceLeDiff, Nat.reduceLT, reduceCtorEq, Nat.succ_eq_add_one]
        exact Fin.eq0 _ rfl rfl rfl rfl
      · rw [if_neg hk] at hG ⊢
        refine goCall0 hG rfl rfl ?_; simp only [b10, Int.cast_ofNat_Int, Int.reduceBEq, Int.reduceLT, Int.reduceLE, Int.reduceSub, Int.reduceAdd, Int.reduceNeg, Int.reduceEq, Int.reduceToNat, decide_true, decide_false, decide_eq_true_eq, beq_self_eq_true, bne_self_eq_false, List.reduceReplicate, List.length_set, List.length_replicate, List.length_cons, List.length_nil, List.set_cons_zero, List.set_cons_succ, Int.toNat_natCast, go_sem, reduceIte, Nat.reduceAdd, Nat.reduceMul, Nat.reduceSub, Nat.reduceEqDiff, Nat.reduceLeDiff, Nat.reduceLT, reduceCtorEq, Nat.succ_eq_add_one]
        exact Fin.eq0 _ rfl rfl rfl rfl
    have e4 : (v == 4) = false := by simp [v4]
    rw [if_neg (by simp only [v2, v3, v4, or_self, not_false_eq_true])]
    by_cases v5 : v = 5
    · have e5 : (v == 5) = true := by simp [v5]
      rw [if_pos v5]
      simp only [e2, e3, e4, e5, Int.cast_ofNat_Int, Int.reduceBEq, Int.reduceLT, Int.reduceLE, Int.reduceSub, Int.reduceAdd, Int.reduceNeg, Int.reduceEq, Int.reduceToNat, decide_true, decide_false, decide_eq_true_eq, beq_self_eq_true, bne_self_eq_false, List.reduceReplicate, List.length_set, List.length_replicate, List.length_cons, List.length_nil, List.set_cons_zero, List.set_cons_succ, Int.toNat_natCast, go_sem, reduceIte, Nat.reduceAdd, Nat.reduceMul, Nat.reduceSub, Nat.reduceEqDiff, Nat.reduceLeDiff, Nat.reduceLT, reduceCtorEq, Nat.succ_eq_add_one]
      have el : IntKind.i64.wrap ((b.length : Int) - 1) = ((15 : Nat) : Int) := by rw [hl]; decide
      have hm : b.length ≤ maxLen := by rw [hl]; decide
      have hn5 : nth (encB b) 15 = [.v (.int .u8 (byN b 15 : Nat))] := encB_nth' (by omega)
      have hx : bits .xor .u8 ((byN b 15 : Nat) : Int) 1 = ((byN b 15 ^^^ 1 : Nat) : Int) := bits_xor_nat .u8 8 (by decide) wraps_u8 (byN b 15) 1 (byN_lt b 15) (by decide)
      simp only [el, Int.toNat_natCast, List.drop_zero, encB_takeL, hn5, hx, List.getElem?_cons_zero, Option.getD_some, List.set_cons_zero, encB_flip hl, Int.cast_ofNat_Int, Int.reduceBEq, Int.reduceLT, Int.reduceLE, Int.reduceSub, Int.reduceAdd, Int.reduceNeg, Int.reduceEq, Int.reduceToNat, decide_true, decide_false, decide_eq_true_eq, beq_self_eq_true, bne_self_eq_false, List.reduceReplicate, List.length_set, List.length_replicate, List.length_cons, List.length_nil, List.set_cons_zero, List.set_cons_succ, Int.toNat_natCast, go_sem, reduceIte, Nat.reduceAdd, Nat.reduceMul, Nat.reduceSub, Nat.reduceEqDiff, Nat.reduceLeDiff, Nat.reduceLT, reduceCtorEq, Nat.succ_eq_add_one]
      have hfl : (flip b).length = 16 := by rw [flip_len, hl]
      refine ⟨⟨by omega, hm⟩, by omega, by omega, by omega, by omega, Fin.mk0 _ rfl rfl ?_⟩
      simp [retOne, rv, rvL, get, encB_len, hfl, hl]
      exact (encB_tk hfl).symm
    · have e5 : (v == 5) = false := by simp [v5]
      rw [if_neg v5]
      simp only [e2, e3, e4, e5, Int.cast_ofNat_Int, Int.reduceBEq, Int.reduceLT, Int.reduceLE, Int.reduceSub, Int.reduceAdd, Int.reduceNeg, Int.reduceEq, Int.reduceToNat, decide_true, decide_false, decide_eq_true_eq, beq_self_eq_true, bne_self_eq_false, List.reduceReplicate, List.length_set, List.length_replicate, List.length_cons, List.length_nil, List.set_cons_zero, List.set_cons_succ, Int.toNat_natCast, go_sem, reduceIte, Nat.reduceAdd, Nat.reduceMul, Nat.reduceSub, Nat.reduceEqDiff, Nat.reduceLeDiff, Nat.reduceLT, reduceCtorEq, Nat.succ_eq_add_one]
      exact Fin.eq0 _ rfl rfl rfl rfl
theorem fn54 (i v : Int) (raw : List UInt8) (hs : List (List UInt8)) : Fn Try.prog 54 [.agg [I i, I v, bsl raw], .sl 1 (encBB hs)] [] (bsl (tokR i v raw hs)) [] [] := by
  refine Fn.of_go ok54 (by simp) ?_
  unfold s54 tokR
  by_cases h7 : v = 7
  · have e7 : (v == 7) = true := by simp [h7]
    rw [if_pos (Or.inl h7)]
    simp only [e7, Int.cast_ofNat_Int, Int.reduceBEq, Int.reduceLT, Int.reduceLE, Int.reduceSub, Int.reduceAdd, Int.reduceNeg, Int.reduceEq, Int.reduceToNat, decide_true, decide_false, decide_eq_true_eq, beq_self_eq_true, bne_self_eq_false, List.reduceReplicate, List.length_set, List.length_replicate, List.length_cons, List.length_nil, List.set_cons_zero, List.set_cons_succ, Int.toNat_natCast, go_sem, reduceIte, Nat.reduceAdd, Nat.reduceMul, Nat.reduceSub, Nat.reduceEqDiff, Nat.reduceLeDiff, Nat.reduceLT, reduceCtorEq, Nat.succ_eq_add_one]
    exact Fin.eq0 _ rfl rfl rfl rfl
  have e7 : (v == 7) = false := by simp [h7]
  by_cases h0 : hs.length = 0
  · have e0 : ((hs.length : Int) == 0) = true := by simp [h0]
    rw [if_pos (Or.inr h0)]
    simp only [e7, e0, Int.cast_ofNat_Int, Int.reduceBEq, Int.reduceLT, Int.reduceLE, Int.reduceSub, Int.reduceAdd, Int.reduceNeg, Int.reduceEq, Int.reduceToNat, decide_true, decide_false, decide_eq_true_eq, beq_self_eq_true, bne_self_eq_false, List.reduceReplicate, List.length_set, List.length_replicate, List.length_cons, List.length_nil, List.set_cons_zero, List.set_cons_succ, Int.toNat_natCast, go_sem, reduceIte, Nat.reduceAdd, Nat.reduceMul, Nat.reduceSub, Nat.reduceEqDiff, Nat.reduceLeDiff, Nat.reduceLT, reduceCtorEq, Nat.succ_eq_add_one]
    exact Fin.eq0 _ rfl rfl rfl rfl
  have e0 : ((hs.length : Int) == 0) = false := by simp [h0]
  rw [if_neg (by omega)]
  have hm0 : 0 ≤ (max i 0).tmod (hs.length : Int) := Int.tmod_nonneg _ (by omega)
  have hm1 : (max i 0).tmod (hs.length : Int) < hs.length := Int.tmod_lt_of_pos _ (by omega)
  have hn : nth (encBB hs) ((max i 0).tmod (hs.length : Int)).toNat = [bsl (hs[tokI i hs.length]?.getD [])] := encBB_nth (by omega)
  simp only [e7, e0, hn, Int.cast_ofNat_Int, Int.reduceBEq, Int.reduceLT, Int.reduceLE, Int.reduceSub, Int.reduceAdd, Int.reduceNeg, Int.reduceEq, Int.reduceToNat, decide_true, decide_false, decide_eq_true_eq, beq_self_eq_true, bne_self_eq_false, List.reduceReplicate, List.length_set, List.length_replicate, List.length_cons, List.length_nil, List.set_cons_zero, List.set_cons_succ, Int.toNat_natCast, go_sem, reduceIte, Nat.reduceAdd, Nat.reduceMul, Nat.reduceSub, Nat.reduceEqDiff, Nat.reduceLeDiff, Nat.reduceLT, reduceCtorEq, Nat.succ_eq_add_one]
  refine ⟨by omega, ⟨hm0, hm1⟩, ?_⟩
  generalize hs[tokI i hs.length]?.getD [] = b
  have hF := fn98 b
  cases hp : parse b with
  | none =>
    rw [parR_no hp] at hF
    rw [tokV_no hp]
    refine goCall0 hF rfl rfl ?_; simp only [Hd.enc, b80, Int.cast_ofNat_Int, Int.reduceBEq, Int.reduceLT, Int.reduceLE, Int.reduceSub, Int.reduceAdd, Int.reduceNeg, Int.reduceEq, Int.reduceToNat, decide_true, decide_false, decide_eq_true_eq, beq_self_eq_true, bne_self_eq_false, List.reduceReplicate, List.length_set, List.length_replicate, List.length_cons, List.length_nil, List.set_cons_zero, List.set_cons_succ, Int.toNat_natCast, go_sem, reduceIte, Nat.reduceAdd, Nat.reduceMul, Nat.reduceSub, Nat.reduceEqDiff, Nat.reduceLeDiff, Nat.reduceLT, reduceCtorEq, Nat.succ_eq_add_one]
    exact Fin.eq0 _ rfl rfl rfl rfl
  | some x =>
    rw [parR_yes hp] at hF
    rw [tokV_yes hp]
    have ho := parse_ok hp
    have hl := parse_len hp
    obtain ⟨id, gen, route, hint⟩ := x
    obtain ⟨⟨a1, a2⟩, ⟨a3, a4⟩, ⟨a5, a6⟩, ⟨a7, a8⟩⟩ := ho
    simp only at a1 a2 a3 a4 a5 a6 a7 a8
    have w1 : IntKind.i64.wrap (gen + 1) = gen + 1 := w64 (by omega)
    have w2 : IntKind.i64.wrap (gen - 1) = gen - 1 := w64 (by omega)
    have w3 : IntKind.i64.wrap (route + 1) = route + 1 := w64 (by omega)
    refine goCall0 hF rfl rfl ?_
    simp only [Hd.enc, Int.cast_ofNat_Int, Int.reduceBEq, Int.reduceLT, Int.reduceLE, Int.reduceSub, Int.reduceAdd, Int.reduceNeg, Int.reduceEq, Int.reduceToNat, decide_true, decide_false, decide_eq_true_eq, beq_self_eq_true, bne_self_eq_false, List.reduceReplicate, List.length_set, List.length_replicate, List.length_cons, List.length_nil, List.set_cons_zero, List.set_cons_succ, Int.toNat_natCast, go_sem, reduceIte, Nat.reduceAdd, Nat.reduceMul, Nat.reduceSub, Nat.reduceEqDiff, Nat.reduceLeDiff, Nat.reduceLT, reduceCtorEq, Nat.succ_eq_add_one]
    have hE : ∀ h : Hd, encR h = if h.ok then .tup [bsl (tokB h), I 0] else .tup [Nl, I 1] := fun _ => rfl
    by_cases v2 : v = 2
    · have e2 : (v == 2) = true := by simp [v2]
      rw [if_pos (Or.inl v2)]
      simp only [e2, w1, hdV, v2, Int.cast_ofNat_Int, Int.reduceBEq, Int.reduceLT, Int.reduceLE, Int.reduceSub, Int.reduceAdd, Int.reduceNeg, Int.reduceEq, Int.reduceToNat, decide_true, decide_false, decide_eq_true_eq, beq_self_eq_true, bne_self_eq_false, List.reduceReplicate, List.length_set, List.length_replicate, List.length_cons, List.length_nil, List.set_cons_zero, List.set_cons_succ, Int.toNat_natCast, go_sem, reduceIte, Nat.reduceAdd, Nat.reduceMul, Nat.reduceSub, Nat.reduceEqDiff, Nat.reduceLeDiff, Nat.reduceLT, reduceCtorEq, Nat.succ_eq_add_one]
      have hG := fn100 ⟨id, gen + 1, route, hint⟩
      unfold orE
      rw [hE] at hG
      by_cases hk : Hd.ok ⟨id, gen + 1, route, hint⟩
      · rw [if_pos hk] at hG ⊢
        refine goCall0 hG rfl rfl ?_; simp only [Int.cast_ofNat_Int, Int.reduceBEq, Int.reduceLT, Int.reduceLE, Int.reduceSub, Int.reduceAdd, Int.reduceNeg, Int.reduceEq, Int.reduceToNat, decide_true, decide_false, decide_eq_true_eq, beq_self_eq_true, bne_self_eq_false, List.reduceReplicate, List.length_set, List.length_replicate, List.length_cons, List.length_nil, List.set_cons_zero, List.set_cons_succ, Int.toNat_natCast, go_sem, reduceIte, Nat.reduceAdd, Nat.reduceMul, Nat.reduceSub, Nat.reduceEqDiff, Nat.reduceLeDiff, Nat.reduceLT, reduceCtorEq, Nat.succ_eq_add_one]
        exact Fin.eq0 _ rfl rfl rfl rfl
      · rw [if_neg hk] at hG ⊢
        refine goCall0 hG rfl rfl ?_; simp only [b10, Int.cast_ofNat_Int, Int.reduceBEq, Int.reduceLT, Int.reduceLE, Int.reduceSub, Int.reduceAdd, Int.reduceNeg, Int.reduceEq, Int.reduceToNat, decide_true, decide_false, decide_eq_true_eq, beq_self_eq_true, bne_self_eq_false, List.reduceReplicate, List.length_set, List.length_replicate, List.length_cons, List.length_nil, List.set_cons_zero, List.set_cons_succ, Int.toNat_natCast, go_sem, reduceIte, Nat.reduceAdd, Nat.reduceMul, Nat.reduceSub, Nat.reduceEqDiff, Nat.reduceLeDiff, Nat.reduceLT, reduceCtorEq, Nat.succ_eq_add_one]
        exact Fin.eq0 _ rfl rfl rfl rfl
    have e2 : (v == 2) = false := by simp [v2]
    by_cases v3 : v = 3
    · have e3 : (v == 3) = true := by simp [v3]
      rw [if_pos (Or.inr (Or.inl v3))]
      simp only [e2, e3, w2, hdV, v3, Int.cast_ofNat_Int, Int.reduceBEq, Int.reduceLT, Int.reduceLE, Int.reduceSub, Int.reduceAdd, Int.reduceNeg, Int.reduceEq, Int.reduceToNat, decide_true, decide_false, decide_eq_true_eq, beq_self_eq_true, bne_self_eq_false, List.reduceReplicate, List.length_set, List.length_replicate, List.length_cons, List.length_nil, List.set_cons_zero, List.set_cons_succ, Int.toNat_natCast, go_sem, reduceIte, Nat.reduceAdd, Nat.reduceMul, Nat.reduceSub, Nat.reduceEqDiff, Nat.reduceLeDiff, Nat.reduceLT, reduceCtorEq, Nat.succ_eq_add_one]
      have hG := fn100 ⟨id, gen - 1, route, hint⟩
      unfold orE
      rw [hE] at hG
      by_cases hk : Hd.ok ⟨id, gen - 1, route, hint⟩
      · rw [if_pos hk] at hG ⊢
        refine goCall0 hG rfl rfl ?_; simp only [Int.cast_ofNat_Int, Int.reduceBEq, Int.reduceLT, Int.reduceLE, Int.reduceSub, Int.reduceAdd, Int.reduceNeg, Int.reduceEq, Int.reduceToNat, decide_true, decide_false, decide_eq_true_eq, beq_self_eq_true, bne_self_eq_false, List.reduceReplicate, List.length_set, List.length_replicate, List.length_cons, List.length_nil, List.set_cons_zero, List.set_cons_succ, Int.toNat_natCast, go_sem, reduceIte, Nat.reduceAdd, Nat.reduceMul, Nat.reduceSub, Nat.reduceEqDiff, Nat.reduceLeDiff, Nat.reduceLT, reduceCtorEq, Nat.succ_eq_add_one]
        exact Fin.eq0 _ rfl rfl rfl rfl
      · rw [if_neg hk] at hG ⊢
        refine goCall0 hG rfl rfl ?_; simp only [b10, Int.cast_ofNat_Int, Int.reduceBEq, Int.reduceLT, Int.reduceLE, Int.reduceSub, Int.reduceAdd, Int.reduceNeg, Int.reduceEq, Int.reduceToNat, decide_true, decide_false, decide_eq_true_eq, beq_self_eq_true, bne_self_eq_false, List.reduceReplicate, List.length_set, List.length_replicate, List.length_cons, List.length_nil, List.set_cons_zero, List.set_cons_succ, Int.toNat_natCast, go_sem, reduceIte, Nat.reduceAdd, Nat.reduceMul, Nat.reduceSub, Nat.reduceEqDiff, Nat.reduceLeDiff, Nat.reduceLT, reduceCtorEq, Nat.succ_eq_add_one]
        exact Fin.eq0 _ rfl rfl rfl rfl
    have e3 : (v == 3) = false := by simp [v3]
    by_cases v4 : v = 4
    · have e4 : (v == 4) = true := by simp [v4]
      rw [if_pos (Or.inr (Or.inr v4))]
      simp only [e2, e3, e4, w3, hdV, v4, Int.cast_ofNat_Int, Int.reduceBEq, Int.reduceLT, Int.reduceLE, Int.reduceSub, Int.reduceAdd, Int.reduceNeg, Int.reduceEq, Int.reduceToNat, decide_true, decide_false, decide_eq_true_eq, beq_self_eq_true, bne_self_eq_false, List.reduceReplicate, List.length_set, List.length_replicate, List.length_cons, List.length_nil, List.set_cons_zero, List.set_cons_succ, Int.toNat_natCast, go_sem, reduceIte, Nat.reduceAdd, Nat.reduceMul, Nat.reduceSub, Nat.reduceEqDiff, Nat.reduceLeDiff, Nat.reduceLT, reduceCtorEq, Nat.succ_eq_add_one]
      have hG := fn100 ⟨id, gen, (route + 1).tmod 65536, hint⟩
      unfold orE
      rw [hE] at hG
      refine ⟨by decide, ?_⟩
      by_cases hk : Hd.ok ⟨id, gen, (route + 1).tmod 65536, hint⟩
      · rw [if_pos hk] at hG ⊢
        refine goCall0 hG rfl rfl ?_; simp only [Int.cast_ofNat_Int, Int.reduceBEq, Int.reduceLT, Int.reduceLE, Int.reduceSub, Int.reduceAdd, Int.reduceNeg, Int.reduceEq, Int.reduceToNat, decide_true, decide_false, decide_eq_true_eq, beq_self_eq_true, bne_self_eq_false, List.reduceReplicate, List.length_set, List.length_replicate, List.length_cons, List.length_nil, List.set_cons_zero, List.set_cons_succ, Int.toNat_natCast, go_sem, reduceIte, Nat.reduceAdd, Nat.reduceMul, Nat.reduceSub, Nat.reduceEqDiff, Nat.reduceLeDiff, Nat.reduceLT, reduceCtorEq, Nat.succ_eq_add_one]
        exact Fin.eq0 _ rfl rfl rfl rfl
      · rw [if_neg hk] at hG ⊢
        refine goCall0 hG rfl rfl ?_; simp only [b10, Int.cast_ofNat_Int, Int.reduceBEq, Int.reduceLT, Int.reduceLE, Int.reduceSub, Int.reduceAdd, Int.reduceNeg, Int.reduceEq, Int.reduceToNat, decide_true, decide_false, decide_eq_true_eq, beq_self_eq_true, bne_self_eq_false, List.reduceReplicate, List.length_set, List.length_replicate, List.length_cons, List.length_nil, List.set_cons_zero, List.set_cons_succ, Int.toNat_natCast, go_sem, reduceIte, Nat.reduceAdd, Nat.reduceMul, Nat.reduceSub, Nat.reduceEqDiff, Nat.reduceLeDiff, Nat.reduceLT, reduceCtorEq, Nat.succ_eq_add_one]
        exact Fin.eq0 _ rfl rfl rfl rfl
    have e4 : (v == 4) = false := by simp [v4]
    rw [if_neg (by simp only [v2, v3, v4, or_self, not_false_eq_true])]
    by_cases v5 : v = 5
    · have e5 : (v == 5) = true := by simp [v5]
      rw [if_pos v5]
      simp only [e2, e3, e4, e5, Int.cast_ofNat_Int, Int.reduceBEq, Int.reduceLT, Int.reduceLE, Int.reduceSub, Int.reduceAdd, Int.reduceNeg, Int.reduceEq, Int.reduceToNat, decide_true, decide_false, decide_eq_true_eq, beq_self_eq_true, bne_self_eq_false, List.reduceReplicate, List.length_set, List.length_replicate, List.length_cons, List.length_nil, List.set_cons_zero, List.set_cons_succ, Int.toNat_natCast, go_sem, reduceIte, Nat.reduceAdd, Nat.reduceMul, Nat.reduceSub, Nat.reduceEqDiff, Nat.reduceLeDiff, Nat.reduceLT, reduceCtorEq, Nat.succ_eq_add_one]
      obtain ⟨x0, b', rfl⟩ : ∃ x0 b', b = x0 :: b' := by
        cases b with
        | nil => cases hl
        | cons x0 b' => exact ⟨x0, b', rfl⟩
      have hl' : b'.length + 1 = 16 := by simpa using hl
      refine goCallE (fn99 x0 b' (by omega)) rfl rfl (by simp) rfl ?_
      have hn5 : nth (encB (x0 :: b')) 15 = [.v (.int .u8 (byN (x0 :: b') 15 : Nat))] := encB_nth' (by omega)
      have hx : bits .xor .u8 ((byN (x0 :: b') 15 : Nat) : Int) 1 = ((byN (x0 :: b') 15 ^^^ 1 : Nat) : Int) := bits_xor_nat .u8 8 (by decide) wraps_u8 (byN (x0 :: b') 15) 1 (byN_lt _ 15) (by decide)
      have el : IntKind.i64.wrap 15 = 15 := by decide
      have e15 : (15 : Int).toNat = 15 := rfl
      generalize x0 :: b' = b at hl hn5 hx ⊢
      simp only [obsFrom, sh, hl', Int.cast_ofNat_Int, el, e15, Int.toNat_natCast, List.drop_zero, encB_takeL, hn5, hx, List.getElem?_cons_zero, Option.getD_some, List.set_cons_zero, encB_flip hl, Int.cast_ofNat_Int, Int.reduceBEq, Int.reduceLT, Int.reduceLE, Int.reduceSub, Int.reduceAdd, Int.reduceNeg, Int.reduceEq, Int.reduceToNat, decide_true, decide_false, decide_eq_true_eq, beq_self_eq_true, bne_self_eq_false, List.reduceReplicate, List.length_set, List.length_replicate, List.length_cons, List.length_nil, List.set_cons_zero, List.set_cons_succ, Int.toNat_natCast, go_sem, reduceIte, Nat.reduceAdd, Nat.reduceMul, Nat.reduceSub, Nat.reduceEqDiff, Nat.reduceLeDiff, Nat.reduceLT, reduceCtorEq, Nat.succ_eq_add_one]
      have hfl : (flip b).length = 16 := by rw [flip_len, hl]
      refine ⟨by omega, by omega, Fin.mk0 _ rfl rfl ?_⟩
      simp [retOne, rv, rvL, get, encB_len, hfl, hl]
      exact (encB_tk hfl).symm

    · have e5 : (v == 5) = false := by simp [v5]
      rw [if_neg v5]
      simp only [e2, e3, e4, e5, Int.cast_ofNat_Int, Int.reduceBEq, Int.reduceLT, Int.reduceLE, Int.reduceSub, Int.reduceAdd, Int.reduceNeg, Int.reduceEq, Int.reduceToNat, decide_true, decide_false, decide_eq_true_eq, beq_self_eq_true, bne_self_eq_false, List.reduceReplicate, List.length_set, List.length_replicate, List.length_cons, List.length_nil, List.set_cons_zero, List.set_cons_succ, Int.toNat_natCast, go_sem, reduceIte, Nat.reduceAdd, Nat.reduceMul, Nat.reduceSub, Nat.reduceEqDiff, Nat.reduceLeDiff, Nat.reduceLT, reduceCtorEq, Nat.succ_eq_add_one]
      exact Fin.eq0 _ rfl rfl rfl rfl
theorem fn51 (h : Hd) : Fn Try.prog 51 [.agg h.enc] [] (if h.ok then bsl (tokB h) else Nl) [] [] := by
  refine Fn.of_go ok51 (by simp) ?_
  unfold s51 Hd.enc
  simp only [Int.cast_ofNat_Int, Int.reduceBEq, Int.reduceLT, Int.reduceLE, Int.reduceSub, Int.reduceAdd, Int.reduceNeg, Int.reduceEq, Int.reduceToNat, decide_true, decide_false, decide_eq_true_eq, beq_self_eq_true, bne_self_eq_false, List.reduceReplicate, List.length_set, List.length_replicate, List.length_cons, List.length_nil, List.set_cons_zero, List.set_cons_succ, Int.toNat_natCast, go_sem, reduceIte, Nat.reduceAdd, Nat.reduceMul, Nat.reduceSub, Nat.reduceEqDiff, Nat.reduceLeDiff, Nat.reduceLT, reduceCtorEq, Nat.succ_eq_add_one]
  have hF := fn97 h
  unfold encR at hF
  by_cases hk : h.ok
  · rw [if_pos hk] at hF ⊢
    refine goCall0 hF rfl rfl ?_; simp only [Int.cast_ofNat_Int, Int.reduceBEq, Int.reduceLT, Int.reduceLE, Int.reduceSub, Int.reduceAdd, Int.reduceNeg, Int.reduceEq, Int.reduceToNat, decide_true, decide_false, decide_eq_true_eq, beq_self_eq_true, bne_self_eq_false, List.reduceReplicate, List.length_set, List.length_replicate, List.length_cons, List.length_nil, List.set_cons_zero, List.set_cons_succ, Int.toNat_natCast, go_sem, reduceIte, Nat.reduceAdd, Nat.reduceMul, Nat.reduceSub, Nat.reduceEqDiff, Nat.reduceLeDiff, Nat.reduceLT, reduceCtorEq, Nat.succ_eq_add_one]
    exact Fin.eq0 _ rfl rfl rfl rfl
  · rw [if_neg hk] at hF ⊢
    refine goCall0 hF rfl rfl ?_; simp only [Int.cast_ofNat_Int, Int.reduceBEq, Int.reduceLT, Int.reduceLE, Int.reduceSub, Int.reduceAdd, Int.reduceNeg, Int.reduceEq, Int.reduceToNat, decide_true, decide_false, decide_eq_true_eq, beq_self_eq_true, bne_self_eq_false, List.reduceReplicate, List.length_set, List.length_replicate, List.length_cons, List.length_nil, List.set_cons_zero, List.set_cons_succ, Int.toNat_natCast, go_sem, reduceIte, Nat.reduceAdd, Nat.reduceMul, Nat.reduceSub, Nat.reduceEqDiff, Nat.reduceLeDiff, Nat.reduceLT, reduceCtorEq, Nat.succ_eq_add_one]
    exact Fin.eq0 _ rfl rfl rfl rfl
end Go.Eng
