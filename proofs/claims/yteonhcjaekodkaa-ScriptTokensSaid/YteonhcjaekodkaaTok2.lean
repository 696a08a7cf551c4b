/-
  Walks and plain lemmas for ScriptTokens: what the functions named below compute, over the abstract states of the engine.
  No condition beyond those that each theorem states.
-/
import Derived.Test.YteonhcjaekodkaaTok1
set_option linter.all false
set_option linter.unusedSimpArgs false
set_option maxRecDepth 20000
set_option maxHeartbeats 4000000
namespace Go.Eng
open Go Go.Proofs

def Hd.enc (h : Hd) : List AV := [I h.id, I h.gen, I h.route, I h.hint]
def encR (h : Hd) : AV := if h.ok then .tup [bsl (tokB h), I 0] else .tup [Nl, I 1]
def hd1 (id : Nat) : List UInt8 := [113] ++ putB id 4
def hd2 (id gen : Nat) : List UInt8 := hd1 id ++ putB gen 3
def hd3 (id gen route : Nat) : List UInt8 := hd2 id gen ++ putB route 2
theorem hd1_len (id : Nat) : (hd1 id).length = 5 := by simp [hd1, putB_len]
theorem hd2_len (id gen : Nat) : (hd2 id gen).length = 8 := by simp [hd2, hd1_len, putB_len]
theorem hd3_len (id gen route : Nat) : (hd3 id gen route).length = 10 := by simp [hd3, hd2_len, putB_len]
theorem headB_len (h : Hd) : (headB h).length = 12 := by simp [headB, putB_len]
theorem encB_tk {b : List UInt8} {k : Nat} (h : b.length = k) : (encB b).take k = encB b := List.take_of_length_le (by rw [encB_len]; omega)
theorem encB_na (b : List UInt8) : ∀ o ∈ [Ob.row 5 1 (encB b)], rowNa o := by
  simp [rowNa, naL, encB]
  intro x _
  rfl
theorem tailB (b : List UInt8) (x : Nat) (hx : x < 256) : encB b ++ [[.v (.int .u8 (x : Int))], [.v (.int .u8 0)]] = encB (b ++ [x.toUInt8, 0]) := by
  have h : ((x.toUInt8.toNat : Nat) : Int) = x := by rw [u8N]; omega
  have h' : (B8 x.toUInt8 : AV) = .v (.int .u8 (x : Int)) := by rw [B8, h]
  simp only [encB, List.map_append, List.map_cons, List.map_nil, h']; rfl

theorem fn97 (h : Hd) : Fn Try.prog 97 [.agg h.enc] [] (encR h) [] [] := by
  refine Fn.of_go ok97 (by simp) ?_
  unfold s97 encR Hd.enc
  by_cases hk : h.ok
  · rw [if_pos hk]
    obtain ⟨⟨a1, a2⟩, ⟨a3, a4⟩, ⟨a5, a6⟩, ⟨a7, a8⟩⟩ := hk
    obtain ⟨id, gen, route, hint⟩ := h
    simp only at a1 a2 a3 a4 a5 a6 a7 a8
    obtain ⟨id, rfl⟩ := Int.eq_ofNat_of_zero_le (show 0 ≤ id by omega)
    obtain ⟨gen, rfl⟩ := Int.eq_ofNat_of_zero_le (show 0 ≤ gen by omega)
    obtain ⟨route, rfl⟩ := Int.eq_ofNat_of_zero_le (show 0 ≤ route by omega)
    obtain ⟨hint, rfl⟩ := Int.eq_ofNat_of_zero_le (show 0 ≤ hint by omega)
    have c1 : decide ((id : Int) < 1) = false := by rw [decide_eq_false_iff_not]; omega
    have c2 : decide (1073741824 < (id : Int)) = false := by rw [decide_eq_false_iff_not]; omega
    have c3 : decide ((gen : Int) < 1) = false := by rw [decide_eq_false_iff_not]; omega
    have c4 : decide (65536 < (gen : Int)) = false := by rw [decide_eq_false_iff_not]; omega
    have c5 : decide ((route : Int) < 0) = false := by rw [decide_eq_false_iff_not]; omega
    have c6 : decide (65536 ≤ (route : Int)) = false := by rw [decide_eq_false_iff_not]; omega
    have c7 : decide ((hint : Int) < 0) = false := by rw [decide_eq_false_iff_not]; omega
    have c8 : decide (6 ≤ (hint : Int)) = false := by rw [decide_eq_false_iff_not]; omega
    simp only [c1, c2, c3, c4, c5, c6, c7, c8, Int.cast_ofNat_Int, Int.reduceBEq, Int.reduceLT, Int.reduceLE, Int.reduceSub, Int.reduceAdd, Int.reduceNeg, Int.reduceEq, Int.reduceToNat, decide_true, decide_false, decide_eq_true_eq, beq_self_eq_true, bne_self_eq_false, List.reduceReplicate, List.length_set, List.length_replicate, List.length_cons, List.length_nil, List.set_cons_zero, List.set_cons_succ, Int.toNat_natCast, go_sem, reduceIte, Nat.reduceAdd, Nat.reduceMul, Nat.reduceSub, Nat.reduceEqDiff, Nat.reduceLeDiff, Nat.reduceLT, reduceCtorEq, Nat.succ_eq_add_one]
    have e0 : [[AV.v (.int .u8 113)]] = encB [113] := rfl
    simp only [e0]
    have r1 : [113] ++ putB id 4 = hd1 id := rfl
    have r2 : hd1 id ++ putB gen 3 = hd2 id gen := rfl
    have r3 : hd2 id gen ++ putB route 2 = hd3 id gen route := rfl
    refine goCallSE (fn112e [113] id 4 (by simp) (by omega) (by omega)) (by simp [rvL, rv, get, encB_len]; rfl) rfl (encB_na _) (by simp) rfl rfl ?_
    simp only [r1, obsFrom, sh, Int.cast_ofNat_Int, Int.reduceBEq, Int.reduceLT, Int.reduceLE, Int.reduceSub, Int.reduceAdd, Int.reduceNeg, Int.reduceEq, Int.reduceToNat, decide_true, decide_false, decide_eq_true_eq, beq_self_eq_true, bne_self_eq_false, List.reduceReplicate, List.length_set, List.length_replicate, List.length_cons, List.length_nil, List.set_cons_zero, List.set_cons_succ, Int.toNat_natCast, go_sem, reduceIte, Nat.reduceAdd, Nat.reduceMul, Nat.reduceSub, Nat.reduceEqDiff, Nat.reduceLeDiff, Nat.reduceLT, reduceCtorEq, Nat.succ_eq_add_one]
    refine goCallSE (fn112e (hd1 id) gen 3 (by simp [hd1_len]) (by omega) (by omega)) (by simp [rvL, rv, get, encB_len, hd1_len, encB_tk (hd1_len id)]) rfl (encB_na _) (by simp) rfl (by simp [expA, expL, hd1_len]; rfl) ?_
    simp only [r2, obsFrom, sh, hd1_len, Int.cast_ofNat_Int, Int.reduceBEq, Int.reduceLT, Int.reduceLE, Int.reduceSub, Int.reduceAdd, Int.reduceNeg, Int.reduceEq, Int.reduceToNat, decide_true, decide_false, decide_eq_true_eq, beq_self_eq_true, bne_self_eq_false, List.reduceReplicate, List.length_set, List.length_replicate, List.length_cons, List.length_nil, List.set_cons_zero, List.set_cons_succ, Int.toNat_natCast, go_sem, reduceIte, Nat.reduceAdd, Nat.reduceMul, Nat.reduceSub, Nat.reduceEqDiff, Nat.reduceLeDiff, Nat.reduceLT, reduceCtorEq, Nat.succ_eq_add_one]
    refine goCallSE (fn112e (hd2 id gen) route 2 (by simp [hd2_len]) (by omega) (by omega)) (by simp [rvL, rv, get, encB_len, hd2_len, encB_tk (hd2_len id gen)]) rfl (encB_na _) (by simp) rfl (by simp [expA, expL, hd2_len]; rfl) ?_
    simp only [r3, obsFrom, sh, hd2_len, Int.cast_ofNat_Int, Int.reduceBEq, Int.reduceLT, Int.reduceLE, Int.reduceSub, Int.reduceAdd, Int.reduceNeg, Int.reduceEq, Int.reduceToNat, decide_true, decide_false, decide_eq_true_eq, beq_self_eq_true, bne_self_eq_false, List.reduceReplicate, List.length_set, List.length_replicate, List.length_cons, List.length_nil, List.set_cons_zero, List.set_cons_succ, Int.toNat_natCast, go_sem, reduceIte, Nat.reduceAdd, Nat.reduceMul, Nat.reduceSub, Nat.reduceEqDiff, Nat.reduceLeDiff, Nat.reduceLT, reduceCtorEq, Nat.succ_eq_add_one]
    have e8 : IntKind.u8.wrap (hint : Int) = (hint : Int) := by rw [IntKind.wrap_u8]; omega
    have r4 : encB (hd3 id gen route) ++ [[.v (.int .u8 (hint : Int))], [.v (.int .u8 0)]] = encB (headB ⟨id, gen, route, hint⟩) := tailB _ hint (by omega)
    simp only [encB_tk (hd3_len id gen route), e8, List.take_succ_cons, List.take_zero, r4, Int.cast_ofNat_Int, Int.reduceBEq, Int.reduceLT, Int.reduceLE, Int.reduceSub, Int.reduceAdd, Int.reduceNeg, Int.reduceEq, Int.reduceToNat, decide_true, decide_false, decide_eq_true_eq, beq_self_eq_true, bne_self_eq_false, List.reduceReplicate, List.length_set, List.length_replicate, List.length_cons, List.length_nil, List.set_cons_zero, List.set_cons_succ, Int.toNat_natCast, go_sem, reduceIte, Nat.reduceAdd, Nat.reduceMul, Nat.reduceSub, Nat.reduceEqDiff, Nat.reduceLeDiff, Nat.reduceLT, reduceCtorEq, Nat.succ_eq_add_one]
    have hl := headB_len ⟨id, gen, route, hint⟩
    have ht : tokB ⟨id, gen, route, hint⟩ = headB ⟨id, gen, route, hint⟩ ++ putB (chk (headB ⟨id, gen, route, hint⟩)) 4 := rfl
    rw [ht]
    have hc := chk_lt (headB ⟨id, gen, route, hint⟩)
    generalize headB ⟨id, gen, route, hint⟩ = hb at hl hc ⊢
    refine ⟨⟨by decide, by rw [hd3_len]; omega⟩, ?_⟩
    refine goCallS0 (fn122 hb (by omega)) (by simp [rvL, rv, get, encB_len, hl, encB_tk hl]) rfl rfl ?_
    simp only [Int.cast_ofNat_Int, Int.reduceBEq, Int.reduceLT, Int.reduceLE, Int.reduceSub, Int.reduceAdd, Int.reduceNeg, Int.reduceEq, Int.reduceToNat, decide_true, decide_false, decide_eq_true_eq, beq_self_eq_true, bne_self_eq_false, List.reduceReplicate, List.length_set, List.length_replicate, List.length_cons, List.length_nil, List.set_cons_zero, List.set_cons_succ, Int.toNat_natCast, go_sem, reduceIte, Nat.reduceAdd, Nat.reduceMul, Nat.reduceSub, Nat.reduceEqDiff, Nat.reduceLeDiff, Nat.reduceLT, reduceCtorEq, Nat.succ_eq_add_one]
    refine goCallSE (fn112e hb (chk hb) 4 (by omega) (by omega) (by omega)) (by simp [rvL, rv, get, encB_len, hl, encB_tk hl]) rfl (encB_na _) (by simp) rfl (by simp [expA, expL, hl]; rfl) ?_
    simp only [obsFrom, sh, hl, Int.cast_ofNat_Int, Int.reduceBEq, Int.reduceLT, Int.reduceLE, Int.reduceSub, Int.reduceAdd, Int.reduceNeg, Int.reduceEq, Int.reduceToNat, decide_true, decide_false, decide_eq_true_eq, beq_self_eq_true, bne_self_eq_false, List.reduceReplicate, List.length_set, List.length_replicate, List.length_cons, List.length_nil, List.set_cons_zero, List.set_cons_succ, Int.toNat_natCast, go_sem, reduceIte, Nat.reduceAdd, Nat.reduceMul, Nat.reduceSub, Nat.reduceEqDiff, Nat.reduceLeDiff, Nat.reduceLT, reduceCtorEq, Nat.succ_eq_add_one]
    exact Fin.mk0 _ rfl rfl (by simp [retOne, rv, rvL, get, encB_len, putB_len, hl]; exact (encB_tk (by simp [putB_len, hl])).symm)
  · rw [if_neg hk]
    simp only [Int.cast_ofNat_Int, Int.reduceBEq, Int.reduceLT, Int.reduceLE, Int.reduceSub, Int.reduceAdd, Int.reduceNeg, Int.reduceEq, Int.reduceToNat, decide_true, decide_false, decide_eq_true_eq, beq_self_eq_true, bne_self_eq_false, List.reduceReplicate, List.length_set, List.length_replicate, List.length_cons, List.length_nil, List.set_cons_zero, List.set_cons_succ, Int.toNat_natCast, go_sem, reduceIte, Nat.reduceAdd, Nat.reduceMul, Nat.reduceSub, Nat.reduceEqDiff, Nat.reduceLeDiff, Nat.reduceLT, reduceCtorEq, Nat.succ_eq_add_one]
    repeat' first
      | (exfalso; simp only [decide_eq_false_iff_not] at *; exact hk ⟨⟨by omega, by omega⟩, ⟨by omega, by omega⟩, ⟨by omega, by omega⟩, ⟨by omega, by omega⟩⟩)
      | (refine goG_split (fun h1 => ?_) (fun h1 => ?_) <;> simp only [h1, go_sem, reduceIte, Nat.reduceAdd, Nat.reduceMul, Nat.reduceSub, Nat.reduceEqDiff, Nat.reduceLeDiff, Nat.reduceLT, reduceCtorEq, Nat.succ_eq_add_one])
      | (refine goIf_split (fun h1 => ?_) (fun h1 => ?_) <;> simp only [h1, go_sem, reduceIte, Nat.reduceAdd, Nat.reduceMul, Nat.reduceSub, Nat.reduceEqDiff, Nat.reduceLeDiff, Nat.reduceLT, reduceCtorEq, Nat.succ_eq_add_one])
      | exact Fin.eq0 _ rfl rfl rfl rfl
end Go.Eng
