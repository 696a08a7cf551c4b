/-
  Walks and plain lemmas for ScriptTokens: what the functions named below compute, over the abstract states of the engine.
  No condition beyond those that each theorem states.
-/
import Derived.Test.YteonhcjaekodkaaMsgOdd
import Derived.Test.YteonhcjaekodkaaTok0
set_option linter.all false
set_option linter.unusedSimpArgs false
set_option maxRecDepth 20000
set_option maxHeartbeats 4000000
namespace Go.Eng
open Go Go.Proofs

theorem Fin.mkE1 {res : List SRes} {r : AV} {t : List (Nat × AV)} {h : List (Nat × Ob)} {e : TypeId} {sz : Nat} {xs : List (List AV)} (b : Nat) (vs : List AV) (h1 : retV t h res = some vs) (hb : get h b = some (.row e sz xs))
    (h2 : okS h [(4, b)] [] [(4, .row e sz xs)] = true) (h3 : rv h [(4, b)] [] r (retOne vs)) : Fin res r [] [.row e sz xs] t h := by
  have e : outs [] [.row e sz xs] = [(4, .row e sz xs)] := rfl
  refine ⟨[(4, b)], [], vs, h1, by rw [e]; exact h2, ?_, by simp only [rvN], h3⟩
  rw [e]
  simp only [rvH, get, if_true, hb, and_true, rvO, and_self]

/-- slices.Grow of nil. -/

theorem goCallS0 {P : Program} {f : FuncId} {xs ys : List AV} {r : AV} {nm : Nat} {h : List (Nat × Ob)} {k : List It} {Q : Exit → St → Prop} {n n' : Nat} {t : List (Nat × AV)} {d : Option Nat} {l : List SOper}
    (hF : Fn P f xs [] r [] []) (ha : rvL h [] [] xs ys) (hr : r.pure = true) (hn : na r = true) (hk : go P (.ops (nm + 8) n' l :: k) Q n (putA t d r) h) : goCall P nm f ys d n' l k Q n t h :=
  goCall_use (hF.callS0 ha hr hn) (by simpa using hk)
theorem goCallDS0 {P : Program} {f : FuncId} {xs ys : List AV} {r : AV} {nm : Nat} {h : List (Nat × Ob)} {k : List It} {Q : Exit → St → Prop} {n n' : Nat} {t : List (Nat × AV)} {d : Option Nat} {l ops : List SOper} {acc : List Foot}
    (hF : Fn P f xs [] r [] []) (ha : rvL h [] [] xs ys) (hr : r.pure = true) (hn : na r = true) (hk : go P (.drw (nm + 8) n' l ops ((deepL ys, []) :: acc) :: k) Q n (putA t d r) h) : goCallD P nm f ys d n' l ops acc k Q n t h :=
  goCallD_use (hF.callS0 ha hr hn) (by simpa using hk)

abbrev B8 (x : UInt8) : AV := .v (.int .u8 (x.toNat : Nat))
def encB (b : List UInt8) : List (List AV) := b.map fun x => [B8 x]
theorem encB_len (b : List UInt8) : (encB b).length = b.length := by simp [encB]
theorem encB_nth {b : List UInt8} {k : Nat} (h : k < b.length) : nth (encB b) k = [B8 b[k]] := by simp [encB, nth, h]
theorem encB_nth' {b : List UInt8} {k : Nat} (h : k < b.length) : nth (encB b) k = [.v (.int .u8 (byN b k : Nat))] := by rw [encB_nth h]; simp [byN, h]
theorem encB_app (a b : List UInt8) : encB a ++ encB b = encB (a ++ b) := by simp [encB]
theorem encB_take (b : List UInt8) (k : Nat) : (encB b).take k = encB (b.take k) := by simp [encB, List.map_take]
theorem encB_drop (b : List UInt8) (k : Nat) : (encB b).drop k = encB (b.drop k) := by simp [encB, List.map_drop]
theorem encB_takeL (b : List UInt8) : (encB b).take b.length = encB b := by rw [encB_take, List.take_length]
/-- Bytes that nobody writes. -/
abbrev bsl (b : List UInt8) : AV := .sl 1 (encB b)
attribute [go_sem] encB_len encB_takeL

theorem wr8 (n k : Nat) : IntKind.u8.wrap ((n : Int).fdiv (2 ^ k)) = (((n / 2 ^ k).toUInt8.toNat : Nat) : Int) := by
  rw [IntKind.wrap_u8, u8N, Int.fdiv_eq_ediv_of_nonneg _ (by exact_mod_cast Nat.zero_le (2 ^ k))]
  rfl
theorem putE (b : List UInt8) (n s q : Nat) : encB (b ++ be n s q) ++ [[.v (.int .u8 ((n / 2 ^ (8 * (s - 1 - q))).toUInt8.toNat : Nat))]] = encB (b ++ be n s (q + 1)) := by
  simp [encB, be]

theorem fn112e (b : List UInt8) (n s : Nat) (hb : b.length ≤ 1000) (hs : 1 ≤ s ∧ s ≤ 4) (hn : n < 2 ^ (8 * s)) : Fn Try.prog 112 [bsl b, I n, I s] [] (.tup [.own 4 1 0 (b.length + s), I 0]) [] [.row 5 1 (encB (b ++ putB n s))] := by
  refine Fn.of_go ok112 (by simp) ?_
  unfold s112
  have hn4 : n < 4294967296 := by rcases (show s = 1 ∨ s = 2 ∨ s = 3 ∨ s = 4 by omega) with rfl | rfl | rfl | rfl <;> simp at hn <;> omega
  have e1 : decide ((n : Int) < 0) = false := by rw [decide_eq_false_iff_not]; omega
  have e2 : IntKind.i64.wrap (1 * 2 ^ (min (IntKind.u64.wrap (IntKind.i64.wrap (8 * (s : Int)))).toNat 64)) = ((2 ^ (8 * s) : Nat) : Int) := by
    rcases (show s = 1 ∨ s = 2 ∨ s = 3 ∨ s = 4 by omega) with rfl | rfl | rfl | rfl <;> decide
  have e3 : decide (((2 ^ (8 * s) : Nat) : Int) ≤ (n : Int)) = false := by rw [decide_eq_false_iff_not]; omega
  have e4 : IntKind.i64.wrap ((s : Int) - 1) = (s : Int) - 1 := w64 (by omega)
  have e5 : decide ((s : Int) < 1) = false := by simp; omega
  have e6 : decide ((6 : Int) < (s : Int)) = false := by simp; omega
  have m1 : b.length ≤ maxLen := Nat.le_trans hb (by decide)
  simp only [e1, e2, e3, e4, e5, e6, go_sem, reduceIte, Nat.reduceAdd, Nat.reduceMul, Nat.reduceSub, Nat.reduceEqDiff, Nat.reduceLeDiff, Nat.reduceLT, reduceCtorEq, Nat.succ_eq_add_one]
  refine ⟨⟨by omega, m1⟩, ?_⟩
  refine go_loop (fun q : {q : Nat // q ≤ s} => ⟨1000, [(1, I n), (8, .own 176 1 0 (b.length + q.1)), (9, I ((s : Int) - 1 - (q.1 : Int)))], [(176, .row 5 1 (encB (b ++ be n s q.1)))]⟩) (fun q => s - q.1) ⟨0, by omega⟩
    (Wk.mk [(176, 176)] [] rfl rfl (by simp only [rvH, rvO, rvL, rv, be, List.append_nil, List.take_length, go_sem, reduceIte, Nat.reduceAdd, Nat.reduceMul, Nat.reduceSub, Nat.reduceEqDiff, Nat.reduceLeDiff, Nat.reduceLT, reduceCtorEq, Nat.succ_eq_add_one]) (by simp only [go_sem, reduceIte, Nat.reduceAdd, Nat.reduceMul, Nat.reduceSub, Nat.reduceEqDiff, Nat.reduceLeDiff, Nat.reduceLT, reduceCtorEq, Nat.succ_eq_add_one]) (by simp only [rv, be, go_sem, reduceIte, Nat.reduceAdd, Nat.reduceMul, Nat.reduceSub, Nat.reduceEqDiff, Nat.reduceLeDiff, Nat.reduceLT, reduceCtorEq, Nat.succ_eq_add_one]; try simp)) ?_
  intro q B hB
  simp only [go_sem, reduceIte, Nat.reduceAdd, Nat.reduceMul, Nat.reduceSub, Nat.reduceEqDiff, Nat.reduceLeDiff, Nat.reduceLT, reduceCtorEq, Nat.succ_eq_add_one]
  refine goIf_split (fun h2 => ?_) (fun h2 => ?_) <;> simp only [h2, go_sem, reduceIte, Nat.reduceAdd, Nat.reduceMul, Nat.reduceSub, Nat.reduceEqDiff, Nat.reduceLeDiff, Nat.reduceLT, reduceCtorEq, Nat.succ_eq_add_one]
  · have e7 : q.1 < s := by simp only [decide_eq_true_eq] at h2; omega
    have e8 : IntKind.u64.wrap (IntKind.i64.wrap (8 * ((s : Int) - 1 - (q.1 : Int)))) = ((8 * (s - 1 - q.1) : Nat) : Int) := by rw [w64 (by omega), IntKind.wrap_u64]; omega
    have e9 : min (8 * (s - 1 - q.1)) 64 = 8 * (s - 1 - q.1) := by omega
    have e10 : IntKind.i64.wrap ((s : Int) - 1 - (q.1 : Int) - 1) = (s : Int) - 1 - ((q.1 + 1 : Nat) : Int) := by rw [w64 (by omega)]; omega
    have e11 : (encB (b ++ be n s q.1)).take (b.length + q.1) = encB (b ++ be n s q.1) := List.take_of_length_le (by simp [encB_len, be_len])
    simp only [e8, e9, e10, e11, wr8, Int.toNat_natCast, List.reduceReplicate, List.length_set, List.length_replicate, List.length_cons, List.length_nil, List.set_cons_zero, List.set_cons_succ, List.drop_zero, putE, List.length_append, be_len, go_sem, reduceIte, Nat.reduceAdd, Nat.reduceMul, Nat.reduceSub, Nat.reduceEqDiff, Nat.reduceLeDiff, Nat.reduceLT, reduceCtorEq, Nat.succ_eq_add_one]
    have hm : b.length + q.1 + 1 ≤ maxLen := Nat.le_trans (show b.length + q.1 + 1 ≤ 2000 by omega) (by decide)
    exact ⟨⟨by omega, hm, Nat.le_refl _⟩, hB _ ⟨q.1 + 1, by omega⟩ (by simp only; omega) (Wk.mk [(176, 1080)] [] rfl rfl (by simp only [rvH, rvO, rvL, rv, go_sem, reduceIte, Nat.reduceAdd, Nat.reduceMul, Nat.reduceSub, Nat.reduceEqDiff, Nat.reduceLeDiff, Nat.reduceLT, reduceCtorEq, Nat.succ_eq_add_one]) (by simp only [go_sem, reduceIte, Nat.reduceAdd, Nat.reduceMul, Nat.reduceSub, Nat.reduceEqDiff, Nat.reduceLeDiff, Nat.reduceLT, reduceCtorEq, Nat.succ_eq_add_one]) (by simp only [rv, go_sem, reduceIte, Nat.reduceAdd, Nat.reduceMul, Nat.reduceSub, Nat.reduceEqDiff, Nat.reduceLeDiff, Nat.reduceLT, reduceCtorEq, Nat.succ_eq_add_one]; try rw [Nat.add_assoc]))⟩
  · have e7 : q.1 = s := by have := q.2; simp only [decide_eq_false_iff_not] at h2; omega
    simp only [e7, go_sem, reduceIte, Nat.reduceAdd, Nat.reduceMul, Nat.reduceSub, Nat.reduceEqDiff, Nat.reduceLeDiff, Nat.reduceLT, reduceCtorEq, Nat.succ_eq_add_one]
    exact Fin.mkE1 176 _ rfl rfl rfl (by simp only [retOne, rv, rvL, get, if_true, and_self, go_sem, reduceIte, Nat.reduceAdd, Nat.reduceMul, Nat.reduceSub, Nat.reduceEqDiff, Nat.reduceLeDiff, Nat.reduceLT, reduceCtorEq, Nat.succ_eq_add_one])
theorem fn126e (b : List UInt8) (n s : Nat) (hb : b.length ≤ 1000) (hs : 1 ≤ s ∧ s ≤ 4) (hn : n < 2 ^ (8 * s)) : Fn Try.prog 126 [bsl b, I n, I s] [] (.tup [.own 4 1 0 (b.length + s), I 0]) [] [.row 5 1 (encB (b ++ putB n s))] := by
  refine Fn.of_go ok126 (by simp) ?_
  unfold s126
  have hn4 : n < 4294967296 := by rcases (show s = 1 ∨ s = 2 ∨ s = 3 ∨ s = 4 by omega) with rfl | rfl | rfl | rfl <;> simp at hn <;> omega
  have e1 : decide ((n : Int) < 0) = false := by rw [decide_eq_false_iff_not]; omega
  have e2 : IntKind.i64.wrap (1 * 2 ^ (min (IntKind.i64.wrap (8 * (s : Int))).toNat 64)) = ((2 ^ (8 * s) : Nat) : Int) := by
    rcases (show s = 1 ∨ s = 2 ∨ s = 3 ∨ s = 4 by omega) with rfl | rfl | rfl | rfl <;> decide
  have e3 : decide (((2 ^ (8 * s) : Nat) : Int) ≤ (n : Int)) = false := by rw [decide_eq_false_iff_not]; omega
  have e4 : IntKind.i64.wrap ((s : Int) - 1) = (s : Int) - 1 := w64 (by omega)
  have e5 : decide ((s : Int) < 1) = false := by simp; omega
  have e6 : decide ((6 : Int) < (s : Int)) = false := by simp; omega
  have m1 : b.length ≤ maxLen := Nat.le_trans hb (by decide)
  simp only [e1, e2, e3, e4, e5, e6, go_sem, reduceIte, Nat.reduceAdd, Nat.reduceMul, Nat.reduceSub, Nat.reduceEqDiff, Nat.reduceLeDiff, Nat.reduceLT, reduceCtorEq, Nat.succ_eq_add_one]
  refine ⟨by rw [w64 (by omega)]; omega, ⟨by omega, m1⟩, ?_⟩
  refine go_loop (fun q : {q : Nat // q ≤ s} => ⟨1000, [(1, I n), (8, .own 168 1 0 (b.length + q.1)), (9, I ((s : Int) - 1 - (q.1 : Int)))], [(168, .row 5 1 (encB (b ++ be n s q.1)))]⟩) (fun q => s - q.1) ⟨0, by omega⟩
    (Wk.mk [(168, 168)] [] rfl rfl (by simp only [rvH, rvO, rvL, rv, be, List.append_nil, List.take_length, go_sem, reduceIte, Nat.reduceAdd, Nat.reduceMul, Nat.reduceSub, Nat.reduceEqDiff, Nat.reduceLeDiff, Nat.reduceLT, reduceCtorEq, Nat.succ_eq_add_one]) (by simp only [go_sem, reduceIte, Nat.reduceAdd, Nat.reduceMul, Nat.reduceSub, Nat.reduceEqDiff, Nat.reduceLeDiff, Nat.reduceLT, reduceCtorEq, Nat.succ_eq_add_one]) (by simp only [rv, be, go_sem, reduceIte, Nat.reduceAdd, Nat.reduceMul, Nat.reduceSub, Nat.reduceEqDiff, Nat.reduceLeDiff, Nat.reduceLT, reduceCtorEq, Nat.succ_eq_add_one]; try simp)) ?_
  intro q B hB
  simp only [go_sem, reduceIte, Nat.reduceAdd, Nat.reduceMul, Nat.reduceSub, Nat.reduceEqDiff, Nat.reduceLeDiff, Nat.reduceLT, reduceCtorEq, Nat.succ_eq_add_one]
  refine goIf_split (fun h2 => ?_) (fun h2 => ?_) <;> simp only [h2, go_sem, reduceIte, Nat.reduceAdd, Nat.reduceMul, Nat.reduceSub, Nat.reduceEqDiff, Nat.reduceLeDiff, Nat.reduceLT, reduceCtorEq, Nat.succ_eq_add_one]
  · have e7 : q.1 < s := by simp only [decide_eq_true_eq] at h2; omega
    have e8 : IntKind.i64.wrap (8 * ((s : Int) - 1 - (q.1 : Int))) = ((8 * (s - 1 - q.1) : Nat) : Int) := by rw [w64 (by omega)]; omega
    have e9 : min (8 * (s - 1 - q.1)) 64 = 8 * (s - 1 - q.1) := by omega
    have e10 : IntKind.i64.wrap ((s : Int) - 1 - (q.1 : Int) - 1) = (s : Int) - 1 - ((q.1 + 1 : Nat) : Int) := by rw [w64 (by omega)]; omega
    have e11 : (encB (b ++ be n s q.1)).take (b.length + q.1) = encB (b ++ be n s q.1) := List.take_of_length_le (by simp [encB_len, be_len])
    simp only [e8, e9, e10, e11, wr8, Int.toNat_natCast, List.reduceReplicate, List.length_set, List.length_replicate, List.length_cons, List.length_nil, List.set_cons_zero, List.set_cons_succ, List.drop_zero, putE, List.length_append, be_len, go_sem, reduceIte, Nat.reduceAdd, Nat.reduceMul, Nat.reduceSub, Nat.reduceEqDiff, Nat.reduceLeDiff, Nat.reduceLT, reduceCtorEq, Nat.succ_eq_add_one]
    have hm : b.length + q.1 + 1 ≤ maxLen := Nat.le_trans (show b.length + q.1 + 1 ≤ 2000 by omega) (by decide)
    exact ⟨by omega, ⟨by omega, hm, Nat.le_refl _⟩, hB _ ⟨q.1 + 1, by omega⟩ (by simp only; omega) (Wk.mk [(168, 1072)] [] rfl rfl (by simp only [rvH, rvO, rvL, rv, go_sem, reduceIte, Nat.reduceAdd, Nat.reduceMul, Nat.reduceSub, Nat.reduceEqDiff, Nat.reduceLeDiff, Nat.reduceLT, reduceCtorEq, Nat.succ_eq_add_one]) (by simp only [go_sem, reduceIte, Nat.reduceAdd, Nat.reduceMul, Nat.reduceSub, Nat.reduceEqDiff, Nat.reduceLeDiff, Nat.reduceLT, reduceCtorEq, Nat.succ_eq_add_one]) (by simp only [rv, go_sem, reduceIte, Nat.reduceAdd, Nat.reduceMul, Nat.reduceSub, Nat.reduceEqDiff, Nat.reduceLeDiff, Nat.reduceLT, reduceCtorEq, Nat.succ_eq_add_one]; try rw [Nat.add_assoc]))⟩
  · have e7 : q.1 = s := by have := q.2; simp only [decide_eq_false_iff_not] at h2; omega
    simp only [e7, go_sem, reduceIte, Nat.reduceAdd, Nat.reduceMul, Nat.reduceSub, Nat.reduceEqDiff, Nat.reduceLeDiff, Nat.reduceLT, reduceCtorEq, Nat.succ_eq_add_one]
    exact Fin.mkE1 168 _ rfl rfl rfl (by simp only [retOne, rv, rvL, get, if_true, and_self, go_sem, reduceIte, Nat.reduceAdd, Nat.reduceMul, Nat.reduceSub, Nat.reduceEqDiff, Nat.reduceLeDiff, Nat.reduceLT, reduceCtorEq, Nat.succ_eq_add_one])
theorem fn125 (x lo hi : Int) : Fn Try.prog 125 [I x, I lo, I hi] [] (Bo (btw x lo hi)) [] [] := by
  refine Fn.of_go ok125 (by simp) ?_
  unfold s125
  simp only [go_sem, reduceIte, Nat.reduceAdd, Nat.reduceMul, Nat.reduceSub, Nat.reduceEqDiff, Nat.reduceLeDiff, Nat.reduceLT, reduceCtorEq, Nat.succ_eq_add_one]
  refine goG_split (fun h1 => ?_) (fun h1 => ?_)
  · simp only [h1, go_sem, reduceIte, Nat.reduceAdd, Nat.reduceMul, Nat.reduceSub, Nat.reduceEqDiff, Nat.reduceLeDiff, Nat.reduceLT, reduceCtorEq, Nat.succ_eq_add_one]
    refine Fin.eq0 _ rfl rfl rfl ?_
    simp only [retOne, btw, h1, Bool.true_and]
  · simp only [h1, go_sem, reduceIte, Nat.reduceAdd, Nat.reduceMul, Nat.reduceSub, Nat.reduceEqDiff, Nat.reduceLeDiff, Nat.reduceLT, reduceCtorEq, Nat.succ_eq_add_one]
    refine Fin.eq0 _ rfl rfl rfl ?_
    simp only [retOne, btw, h1, Bool.false_and]

theorem fn113b (b : List UInt8) (hl : b.length ≤ 100000) : Fn Try.prog 113 [bsl b] [] (I (sumB 2166136261 b : Nat)) [] [] := by
  refine Fn.of_go ok113 (by simp) ?_
  unfold s113
  simp only [go_sem, reduceIte, Nat.reduceAdd, Nat.reduceMul, Nat.reduceSub, Nat.reduceEqDiff, Nat.reduceLeDiff, Nat.reduceLT, reduceCtorEq, Nat.succ_eq_add_one]
  refine go_loop (fun j : {j : Nat // j ≤ b.length} => ⟨1000, [(0, bsl b), (3, I (sumB 2166136261 (b.take j.1) : Nat)), (4, I j.1)], []⟩) (fun j => b.length - j.1) ⟨0, by omega⟩
    (Wk.mk [] [] rfl rfl (by simp only [go_sem, reduceIte, Nat.reduceAdd, Nat.reduceMul, Nat.reduceSub, Nat.reduceEqDiff, Nat.reduceLeDiff, Nat.reduceLT, reduceCtorEq, Nat.succ_eq_add_one]) (by simp only [go_sem, reduceIte, Nat.reduceAdd, Nat.reduceMul, Nat.reduceSub, Nat.reduceEqDiff, Nat.reduceLeDiff, Nat.reduceLT, reduceCtorEq, Nat.succ_eq_add_one]) (by simp only [rv, sumB, List.take_zero, go_sem, reduceIte, Nat.reduceAdd, Nat.reduceMul, Nat.reduceSub, Nat.reduceEqDiff, Nat.reduceLeDiff, Nat.reduceLT, reduceCtorEq, Nat.succ_eq_add_one]; exact ⟨rfl, rfl⟩)) ?_
  intro j B hB
  simp only [go_sem, reduceIte, Nat.reduceAdd, Nat.reduceMul, Nat.reduceSub, Nat.reduceEqDiff, Nat.reduceLeDiff, Nat.reduceLT, reduceCtorEq, Nat.succ_eq_add_one]
  refine goIf_split (fun h1 => ?_) (fun h1 => ?_) <;> simp only [h1, go_sem, reduceIte, Nat.reduceAdd, Nat.reduceMul, Nat.reduceSub, Nat.reduceEqDiff, Nat.reduceLeDiff, Nat.reduceLT, reduceCtorEq, Nat.succ_eq_add_one]
  · have e1 : j.1 < b.length := by simp only [decide_eq_true_eq] at h1; omega
    have e2 := sumB_lt (b.take j.1) 2166136261 (by decide)
    have e3 : b[j.1].toNat < 256 := b[j.1].toNat_lt
    simp only [Int.toNat_natCast, encB_nth e1, w64 (n := (b[j.1].toNat : Int)) (by omega), hs_i64 _ _ e2 e3, ← sumB_take _ _ _ e1, w64_succ (show j.1 ≤ 100000 by omega), go_sem, reduceIte, Nat.reduceAdd, Nat.reduceMul, Nat.reduceSub, Nat.reduceEqDiff, Nat.reduceLeDiff, Nat.reduceLT, reduceCtorEq, Nat.succ_eq_add_one]
    refine ⟨⟨by omega, by omega⟩, hB _ ⟨j.1 + 1, e1⟩ (by simp only; omega) (Wk.mk [] [] rfl rfl (by simp only [go_sem, reduceIte, Nat.reduceAdd, Nat.reduceMul, Nat.reduceSub, Nat.reduceEqDiff, Nat.reduceLeDiff, Nat.reduceLT, reduceCtorEq, Nat.succ_eq_add_one]) (by simp only [go_sem, reduceIte, Nat.reduceAdd, Nat.reduceMul, Nat.reduceSub, Nat.reduceEqDiff, Nat.reduceLeDiff, Nat.reduceLT, reduceCtorEq, Nat.succ_eq_add_one]) (by simp only [rv, go_sem, reduceIte, Nat.reduceAdd, Nat.reduceMul, Nat.reduceSub, Nat.reduceEqDiff, Nat.reduceLeDiff, Nat.reduceLT, reduceCtorEq, Nat.succ_eq_add_one]))⟩
  · have e1 : j.1 = b.length := by have := j.2; simp only [decide_eq_false_iff_not] at h1; omega
    simp only [e1, List.take_length]
    exact Fin.eq0 _ rfl rfl rfl rfl

theorem fn122 (b : List UInt8) (hl : b.length ≤ 10000) : Fn Try.prog 122 [bsl b] [] (I (chk b : Nat)) [] [] := by
  refine Fn.of_go ok122 (by simp) ?_
  unfold s122
  have hm : 1 + b.length ≤ maxLen := Nat.le_trans (show 1 + b.length ≤ 10001 by omega) (by decide)
  have e0 : [[AV.v (.int .u8 90)]] ++ encB b = encB (90 :: b) := rfl
  simp only [List.take_succ_cons, List.take_zero, e0, Int.cast_ofNat_Int, Int.reduceBEq, Int.reduceLT, Int.reduceLE, Int.reduceSub, Int.reduceAdd, Int.reduceNeg, Int.reduceEq, Int.reduceToNat, decide_true, decide_false, decide_eq_true_eq, beq_self_eq_true, bne_self_eq_false, List.reduceReplicate, List.length_set, List.length_replicate, List.length_cons, List.length_nil, List.set_cons_zero, List.set_cons_succ, Int.toNat_natCast, go_sem, reduceIte, Nat.reduceAdd, Nat.reduceMul, Nat.reduceSub, Nat.reduceEqDiff, Nat.reduceLeDiff, Nat.reduceLT, reduceCtorEq, Nat.succ_eq_add_one]
  refine ⟨⟨by omega, hm⟩, ?_⟩
  refine goCallS0 (fn113b (90 :: b) (by simp; omega)) (by simp [rvL, rv, get, encB_len]; exact ⟨by omega, (List.take_of_length_le (by simp [encB_len]; omega)).symm⟩) rfl rfl ?_
  simp only [go_sem, reduceIte, Nat.reduceAdd, Nat.reduceMul, Nat.reduceSub, Nat.reduceEqDiff, Nat.reduceLeDiff, Nat.reduceLT, reduceCtorEq, Nat.succ_eq_add_one]
  exact Fin.eq0 _ rfl rfl rfl rfl

theorem fn131 (h : Nat) (hh : h < 4294967296) (b : List UInt8) (hl : b.length ≤ 100000) : Fn Try.prog 131 [.v (.int .u32 h), bsl b] [] (.v (.int .u32 (sumB h b : Nat))) [] [] := by
  refine Fn.of_go ok131 (by simp) ?_
  unfold s131
  simp only [go_sem, reduceIte, Nat.reduceAdd, Nat.reduceMul, Nat.reduceSub, Nat.reduceEqDiff, Nat.reduceLeDiff, Nat.reduceLT, reduceCtorEq, Nat.succ_eq_add_one]
  refine go_loop (fun j : {j : Nat // j ≤ b.length} => ⟨1000, [(0, .v (.int .u32 (sumB h (b.take j.1) : Nat))), (7, bsl b), (8, I b.length), (9, I j.1)], []⟩) (fun j => b.length - j.1) ⟨0, by omega⟩
    (Wk.mk [] [] rfl rfl (by simp only [go_sem, reduceIte, Nat.reduceAdd, Nat.reduceMul, Nat.reduceSub, Nat.reduceEqDiff, Nat.reduceLeDiff, Nat.reduceLT, reduceCtorEq, Nat.succ_eq_add_one]) (by simp only [go_sem, reduceIte, Nat.reduceAdd, Nat.reduceMul, Nat.reduceSub, Nat.reduceEqDiff, Nat.reduceLeDiff, Nat.reduceLT, reduceCtorEq, Nat.succ_eq_add_one]) (by simp only [rv, sumB, List.take_zero, go_sem, reduceIte, Nat.reduceAdd, Nat.reduceMul, Nat.reduceSub, Nat.reduceEqDiff, Nat.reduceLeDiff, Nat.reduceLT, reduceCtorEq, Nat.succ_eq_add_one]; try rfl)) ?_
  intro j B hB
  simp only [go_sem, reduceIte, Nat.reduceAdd, Nat.reduceMul, Nat.reduceSub, Nat.reduceEqDiff, Nat.reduceLeDiff, Nat.reduceLT, reduceCtorEq, Nat.succ_eq_add_one]
  refine goIf_split (fun h1 => ?_) (fun h1 => ?_) <;> simp only [h1, go_sem, reduceIte, Nat.reduceAdd, Nat.reduceMul, Nat.reduceSub, Nat.reduceEqDiff, Nat.reduceLeDiff, Nat.reduceLT, reduceCtorEq, Nat.succ_eq_add_one]
  · have e1 : j.1 < b.length := by simp only [decide_eq_true_eq] at h1; omega
    have e2 := sumB_lt (b.take j.1) h hh
    have e3 : b[j.1].toNat < 256 := b[j.1].toNat_lt
    have e4 : IntKind.u32.wrap (b[j.1].toNat : Int) = (b[j.1].toNat : Int) := by rw [IntKind.wrap_u32]; omega
    simp only [Int.toNat_natCast, encB_nth e1, e4, hs_u32 _ _ e2 e3, ← sumB_take _ _ _ e1, w64_succ (show j.1 ≤ 100000 by omega), go_sem, reduceIte, Nat.reduceAdd, Nat.reduceMul, Nat.reduceSub, Nat.reduceEqDiff, Nat.reduceLeDiff, Nat.reduceLT, reduceCtorEq, Nat.succ_eq_add_one]
    refine ⟨⟨by omega, by omega⟩, hB _ ⟨j.1 + 1, e1⟩ (by simp only; omega) (Wk.mk [] [] rfl rfl (by simp only [go_sem, reduceIte, Nat.reduceAdd, Nat.reduceMul, Nat.reduceSub, Nat.reduceEqDiff, Nat.reduceLeDiff, Nat.reduceLT, reduceCtorEq, Nat.succ_eq_add_one]) (by simp only [go_sem, reduceIte, Nat.reduceAdd, Nat.reduceMul, Nat.reduceSub, Nat.reduceEqDiff, Nat.reduceLeDiff, Nat.reduceLT, reduceCtorEq, Nat.succ_eq_add_one]) (by simp only [rv, go_sem, reduceIte, Nat.reduceAdd, Nat.reduceMul, Nat.reduceSub, Nat.reduceEqDiff, Nat.reduceLeDiff, Nat.reduceLT, reduceCtorEq, Nat.succ_eq_add_one]))⟩
  · have e1 : j.1 = b.length := by have := j.2; simp only [decide_eq_false_iff_not] at h1; omega
    simp only [e1, List.take_length, go_sem, reduceIte, Nat.reduceAdd, Nat.reduceMul, Nat.reduceSub, Nat.reduceEqDiff, Nat.reduceLeDiff, Nat.reduceLT, reduceCtorEq, Nat.succ_eq_add_one]
    exact Fin.eq0 _ rfl rfl rfl rfl

theorem fn127 (b : List UInt8) (hl : b.length ≤ 10000) : Fn Try.prog 127 [bsl b] [] (I (chk b : Nat)) [] [] := by
  refine Fn.of_go ok127 (by simp) ?_
  unfold s127
  have e0 : [[AV.v (.int .u8 90)]] = encB [90] := rfl
  have e1 : IntKind.i64.wrap (chk b : Nat) = (chk b : Nat) := w64 (by have := chk_lt b; omega)
  simp only [e0, Int.cast_ofNat_Int, Int.reduceBEq, Int.reduceLT, Int.reduceLE, Int.reduceSub, Int.reduceAdd, Int.reduceNeg, Int.reduceEq, Int.reduceToNat, decide_true, decide_false, decide_eq_true_eq, beq_self_eq_true, bne_self_eq_false, List.reduceReplicate, List.length_set, List.length_replicate, List.length_cons, List.length_nil, List.set_cons_zero, List.set_cons_succ, Int.toNat_natCast, go_sem, reduceIte, Nat.reduceAdd, Nat.reduceMul, Nat.reduceSub, Nat.reduceEqDiff, Nat.reduceLeDiff, Nat.reduceLT, reduceCtorEq, Nat.succ_eq_add_one]
  refine goCallS0 (fn131 2166136261 (by decide) [90] (by simp)) (by simp [rvL, rv, get, encB_len]; rfl) rfl rfl ?_
  simp only [go_sem, reduceIte, Nat.reduceAdd, Nat.reduceMul, Nat.reduceSub, Nat.reduceEqDiff, Nat.reduceLeDiff, Nat.reduceLT, reduceCtorEq, Nat.succ_eq_add_one]
  refine goCall0 (fn131 (sumB 2166136261 [90]) (sumB_lt _ _ (by decide)) b (by omega)) rfl rfl ?_
  have e2 : sumB (sumB 2166136261 [90]) b = chk b := rfl
  simp only [e1, e2, go_sem, reduceIte, Nat.reduceAdd, Nat.reduceMul, Nat.reduceSub, Nat.reduceEqDiff, Nat.reduceLeDiff, Nat.reduceLT, reduceCtorEq, Nat.succ_eq_add_one]
  exact Fin.eq0 _ rfl rfl rfl rfl
end Go.Eng
