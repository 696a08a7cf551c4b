/-
  Walks and plain lemmas for SectionCarries: what the functions named below compute, over the abstract states of the engine.
  No condition beyond those that each theorem states.
-/
import Derived.Test.YtjkgjdgmghnknaaGreatBq2
set_option linter.all false
set_option linter.unusedSimpArgs false
set_option maxRecDepth 20000
set_option maxHeartbeats 4000000
namespace Go.Eng
open Go Go.Proofs

def putV (n : Int) (q : Nat) : Int := IntKind.u8.wrap (n.fdiv (2 ^ (8 * (3 - q))))
def putL (n : Int) : Nat → List (List AV)
  | 0 => []
  | q + 1 => putL n q ++ [[.v (.int .u8 (putV n q))]]
theorem putL_len (n : Int) : ∀ q, (putL n q).length = q
  | 0 => rfl
  | q + 1 => by simp [putL, putL_len n q]
theorem putL_take (n : Int) (q : Nat) : (putL n q).take q = putL n q := List.take_of_length_le (by rw [putL_len]; omega)

theorem fn73 (n : Int) (h0 : 0 ≤ n) (h1 : n ≤ 1073741824) : Fn Tryz.prog 73 [Nl, I n, I 4] [] (.tup [.sl 1 (putL n 4), I 0]) [] [] := by
  refine Fn.of_go ok73 (by simp) ?_
  unfold s73
  have e1 : decide (n < 0) = false := by simpa using h0
  have e2 : IntKind.i64.wrap (1 * 2 ^ (min (IntKind.u64.wrap (IntKind.i64.wrap (8 * 4))).toNat 64)) = 4294967296 := by decide
  have e3 : decide (4294967296 ≤ n) = false := by simp; omega
  have e4 : IntKind.i64.wrap (4 - 1) = 3 := by decide
  have e5 : decide ((4 : Int) < 1) = false := rfl
  have e6 : decide ((6 : Int) < 4) = false := rfl
  simp only [e1, e2, e3, e4, e5, e6, go_sem, reduceIte, Nat.reduceAdd, Nat.reduceMul, Nat.reduceSub, Nat.reduceEqDiff, Nat.reduceLeDiff, Nat.reduceLT, reduceCtorEq, Nat.succ_eq_add_one]
  refine ⟨Nat.zero_le _, ?_⟩
  refine go_loop (fun q : {q : Nat // q ≤ 4} => ⟨1000, [(1, I n), (8, .own 176 1 0 q.1), (9, I (3 - (q.1 : Int)))], [(176, .row 5 1 (putL n q.1))]⟩) (fun q => 4 - q.1) ⟨0, by omega⟩
    (Wk.mk [(176, 176)] [] rfl rfl (by simp only [rvH, rvO, rvL, rv, putL, go_sem, reduceIte, Nat.reduceAdd, Nat.reduceMul, Nat.reduceSub, Nat.reduceEqDiff, Nat.reduceLeDiff, Nat.reduceLT, reduceCtorEq, Nat.succ_eq_add_one]) (by simp only [go_sem, reduceIte, Nat.reduceAdd, Nat.reduceMul, Nat.reduceSub, Nat.reduceEqDiff, Nat.reduceLeDiff, Nat.reduceLT, reduceCtorEq, Nat.succ_eq_add_one]) (by simp only [rv, putL, go_sem, reduceIte, Nat.reduceAdd, Nat.reduceMul, Nat.reduceSub, Nat.reduceEqDiff, Nat.reduceLeDiff, Nat.reduceLT, reduceCtorEq, Nat.succ_eq_add_one]; try rfl)) ?_
  intro q B hB
  simp only [go_sem, reduceIte, Nat.reduceAdd, Nat.reduceMul, Nat.reduceSub, Nat.reduceEqDiff, Nat.reduceLeDiff, Nat.reduceLT, reduceCtorEq, Nat.succ_eq_add_one]
  refine goIf_split (fun h2 => ?_) (fun h2 => ?_) <;> simp only [h2, go_sem, reduceIte, Nat.reduceAdd, Nat.reduceMul, Nat.reduceSub, Nat.reduceEqDiff, Nat.reduceLeDiff, Nat.reduceLT, reduceCtorEq, Nat.succ_eq_add_one]
  · have e7 : q.1 ≤ 3 := by simp only [decide_eq_true_eq] at h2; omega
    have e8 : IntKind.u64.wrap (IntKind.i64.wrap (8 * (3 - (q.1 : Int)))) = ((8 * (3 - q.1) : Nat) : Int) := by rw [w64 (by omega), IntKind.wrap_u64]; omega
    have e9 : min (8 * (3 - q.1)) 64 = 8 * (3 - q.1) := by omega
    have e10 : IntKind.i64.wrap (3 - (q.1 : Int) - 1) = 3 - ((q.1 + 1 : Nat) : Int) := by rw [w64 (by omega)]; omega
    have e11 : IntKind.u8.wrap (n.fdiv (2 ^ (8 * (3 - q.1)))) = putV n q.1 := rfl
    simp only [e8, e9, e10, e11, Int.toNat_natCast, putL_len, putL_take, List.reduceReplicate, List.length_set, List.length_replicate, List.length_cons, List.length_nil, List.set_cons_zero, List.set_cons_succ, go_sem, reduceIte, Nat.reduceAdd, Nat.reduceMul, Nat.reduceSub, Nat.reduceEqDiff, Nat.reduceLeDiff, Nat.reduceLT, reduceCtorEq, Nat.succ_eq_add_one]
    have hm : q.1 + 1 ≤ maxLen := Nat.le_trans (show q.1 + 1 ≤ 4 by omega) (by decide)
    exact ⟨⟨by omega, hm, Nat.le_refl _⟩, hB _ ⟨q.1 + 1, by omega⟩ (by simp only; omega) (Wk.mk [(176, 1080)] [] rfl rfl (by simp only [rvH, rvO, rvL, rv, putL, go_sem, reduceIte, Nat.reduceAdd, Nat.reduceMul, Nat.reduceSub, Nat.reduceEqDiff, Nat.reduceLeDiff, Nat.reduceLT, reduceCtorEq, Nat.succ_eq_add_one]) (by simp only [go_sem, reduceIte, Nat.reduceAdd, Nat.reduceMul, Nat.reduceSub, Nat.reduceEqDiff, Nat.reduceLeDiff, Nat.reduceLT, reduceCtorEq, Nat.succ_eq_add_one]) (by simp only [rv, putL, go_sem, reduceIte, Nat.reduceAdd, Nat.reduceMul, Nat.reduceSub, Nat.reduceEqDiff, Nat.reduceLeDiff, Nat.reduceLT, reduceCtorEq, Nat.succ_eq_add_one]))⟩
  · have e7 : q.1 = 4 := by have := q.2; simp only [decide_eq_false_iff_not] at h2; omega
    simp only [e7, go_sem, reduceIte, Nat.reduceAdd, Nat.reduceMul, Nat.reduceSub, Nat.reduceEqDiff, Nat.reduceLeDiff, Nat.reduceLT, reduceCtorEq, Nat.succ_eq_add_one]
    refine Fin.mk0 _ rfl rfl ?_
    simp only [retOne, rv, rvL, putL_len, putL_take, List.drop_zero, go_sem, reduceIte, Nat.reduceAdd, Nat.reduceMul, Nat.reduceSub, Nat.reduceEqDiff, Nat.reduceLeDiff, Nat.reduceLT, reduceCtorEq, Nat.succ_eq_add_one]
    simp

/-- One round of the hash. -/
def hashS (h : Int) (x : List AV) : Int := match x with
  | [.v (.int .u8 b)] => bits .and .i64 (IntKind.i64.wrap (bits .xor .i64 h b * 16777619)) 4294967295
  | _ => h
def hashV (xs : List (List AV)) : Nat → Int
  | 0 => 2166136261
  | j + 1 => hashS (hashV xs j) (nth xs j)

theorem fn74 (xs : List (List AV)) (hl : xs.length ≤ 100000) (hx : ∀ k, k < xs.length → ∃ b : Int, (0 ≤ b ∧ b ≤ 255) ∧ nth xs k = [.v (.int .u8 b)]) : Fn Tryz.prog 74 [.sl 1 xs] [] (I (hashV xs xs.length)) [] [] := by
  refine Fn.of_go ok74 (by simp) ?_
  unfold s74
  simp only [go_sem, reduceIte, Nat.reduceAdd, Nat.reduceMul, Nat.reduceSub, Nat.reduceEqDiff, Nat.reduceLeDiff, Nat.reduceLT, reduceCtorEq, Nat.succ_eq_add_one]
  refine go_loop (fun j : {j : Nat // j ≤ xs.length} => ⟨1000, [(0, .sl 1 xs), (3, I (hashV xs j.1)), (4, I j.1)], []⟩) (fun j => xs.length - j.1) ⟨0, by omega⟩
    (Wk.mk [] [] rfl rfl (by simp only [go_sem, reduceIte, Nat.reduceAdd, Nat.reduceMul, Nat.reduceSub, Nat.reduceEqDiff, Nat.reduceLeDiff, Nat.reduceLT, reduceCtorEq, Nat.succ_eq_add_one]) (by simp only [go_sem, reduceIte, Nat.reduceAdd, Nat.reduceMul, Nat.reduceSub, Nat.reduceEqDiff, Nat.reduceLeDiff, Nat.reduceLT, reduceCtorEq, Nat.succ_eq_add_one]) (by simp only [rv, hashV, go_sem, reduceIte, Nat.reduceAdd, Nat.reduceMul, Nat.reduceSub, Nat.reduceEqDiff, Nat.reduceLeDiff, Nat.reduceLT, reduceCtorEq, Nat.succ_eq_add_one]; try rfl)) ?_
  intro j B hB
  simp only [go_sem, reduceIte, Nat.reduceAdd, Nat.reduceMul, Nat.reduceSub, Nat.reduceEqDiff, Nat.reduceLeDiff, Nat.reduceLT, reduceCtorEq, Nat.succ_eq_add_one]
  refine goIf_split (fun h1 => ?_) (fun h1 => ?_) <;> simp only [h1, go_sem, reduceIte, Nat.reduceAdd, Nat.reduceMul, Nat.reduceSub, Nat.reduceEqDiff, Nat.reduceLeDiff, Nat.reduceLT, reduceCtorEq, Nat.succ_eq_add_one]
  · have e1 : j.1 < xs.length := by simp only [decide_eq_true_eq] at h1; omega
    obtain ⟨b, hb, hn⟩ := hx j.1 e1
    simp only [Int.toNat_natCast, hn, w64 (n := b) (by omega), w64_succ (show j.1 ≤ 100000 by omega), go_sem, reduceIte, Nat.reduceAdd, Nat.reduceMul, Nat.reduceSub, Nat.reduceEqDiff, Nat.reduceLeDiff, Nat.reduceLT, reduceCtorEq, Nat.succ_eq_add_one]
    refine ⟨⟨by omega, by omega⟩, hB _ ⟨j.1 + 1, e1⟩ (by simp only; omega) (Wk.mk [] [] rfl rfl (by simp only [go_sem, reduceIte, Nat.reduceAdd, Nat.reduceMul, Nat.reduceSub, Nat.reduceEqDiff, Nat.reduceLeDiff, Nat.reduceLT, reduceCtorEq, Nat.succ_eq_add_one]) (by simp only [go_sem, reduceIte, Nat.reduceAdd, Nat.reduceMul, Nat.reduceSub, Nat.reduceEqDiff, Nat.reduceLeDiff, Nat.reduceLT, reduceCtorEq, Nat.succ_eq_add_one]) (by simp only [rv, hashV, hashS, hn, go_sem, reduceIte, Nat.reduceAdd, Nat.reduceMul, Nat.reduceSub, Nat.reduceEqDiff, Nat.reduceLeDiff, Nat.reduceLT, reduceCtorEq, Nat.succ_eq_add_one]))⟩
  · have e1 : j.1 = xs.length := by have := j.2; simp only [decide_eq_false_iff_not] at h1; omega
    rw [e1]
    exact Fin.eq0 _ rfl rfl rfl rfl

theorem putL_nth (n : Int) : ∀ (q k : Nat), k < q → nth (putL n q) k = [.v (.int .u8 (putV n k))]
  | 0, k, h => absurd h (by omega)
  | q + 1, k, h => by
    by_cases e : k = q
    · subst e; simp [putL, nth, putL_len]
    · rw [← putL_nth n q k (by omega)]
      simp [putL, nth, List.getElem?_append_left, putL_len, show k < q by omega]
theorem putV_in (n : Int) (q : Nat) : 0 ≤ putV n q ∧ putV n q ≤ 255 := by
  unfold putV
  rw [IntKind.wrap_u8]
  omega

def routeV (id : Int) : Int := if 0 ≤ id ∧ id ≤ 1073741824 then
  bits .xor .i64 ((hashV (putL id 4) 4).fdiv (2 ^ (min 16 64))) (bits .and .i64 (hashV (putL id 4) 4) 65535) else 0

theorem fn33 (id : Int) : Fn Tryz.prog 33 [I id] [] (I (routeV id)) [] [] := by
  refine Fn.of_go ok33 (by simp) ?_
  unfold s33 routeV
  by_cases h1 : id < 0
  · simp only [h1, decide_true, if_neg (show ¬ (0 ≤ id ∧ id ≤ 1073741824) by omega), go_sem, reduceIte, Nat.reduceAdd, Nat.reduceMul, Nat.reduceSub, Nat.reduceEqDiff, Nat.reduceLeDiff, Nat.reduceLT, reduceCtorEq, Nat.succ_eq_add_one]
    exact Fin.eq0 _ rfl rfl rfl rfl
  by_cases h2 : 1073741824 < id
  · simp only [h1, h2, decide_true, decide_false, if_neg (show ¬ (0 ≤ id ∧ id ≤ 1073741824) by omega), go_sem, reduceIte, Nat.reduceAdd, Nat.reduceMul, Nat.reduceSub, Nat.reduceEqDiff, Nat.reduceLeDiff, Nat.reduceLT, reduceCtorEq, Nat.succ_eq_add_one]
    exact Fin.eq0 _ rfl rfl rfl rfl
  simp only [h1, h2, decide_false, if_pos (show (0 ≤ id ∧ id ≤ 1073741824) by omega), go_sem, reduceIte, Nat.reduceAdd, Nat.reduceMul, Nat.reduceSub, Nat.reduceEqDiff, Nat.reduceLeDiff, Nat.reduceLT, reduceCtorEq, Nat.succ_eq_add_one]
  refine goCall0 (fn73 id (by omega) (by omega)) rfl rfl ?_
  simp only [go_sem, reduceIte, Nat.reduceAdd, Nat.reduceMul, Nat.reduceSub, Nat.reduceEqDiff, Nat.reduceLeDiff, Nat.reduceLT, reduceCtorEq, Nat.succ_eq_add_one]
  have h113 := fn74 (putL id 4) (by rw [putL_len]; omega) (fun k hk => ⟨putV id k, putV_in id k, putL_nth id 4 k (by rw [putL_len] at hk; exact hk)⟩)
  rw [putL_len] at h113
  refine goCall0 h113 rfl rfl ?_
  simp only [Int.reduceToNat, go_sem, reduceIte, Nat.reduceAdd, Nat.reduceMul, Nat.reduceSub, Nat.reduceEqDiff, Nat.reduceLeDiff, Nat.reduceLT, reduceCtorEq, Nat.succ_eq_add_one]
  exact ⟨by omega, Fin.eq0 _ rfl rfl rfl rfl⟩
end Go.Eng
