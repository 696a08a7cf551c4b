/-
  Walks and plain lemmas for SectionCarries: what the functions named below compute, over the abstract states of the engine.
  No condition beyond those that each theorem states.
-/
import Derived.Test.YtjkgjdgmghnknaaGreatBq1
set_option linter.all false
set_option linter.unusedSimpArgs false
set_option maxRecDepth 20000
set_option maxHeartbeats 4000000
namespace Go.Eng
open Go Go.Proofs

def bodyA (l : List Int) (a : Nat) : Nat → Nat
  | 0 => a
  | j + 1 => nN l (bodyA l a j) 3
def bodyV (l : List Int) (a j : Nat) : Int := 97 + nV l (bodyA l a j) 3
def bodyR (l : List Int) (a n j : Nat) : List (List AV) := (List.range n).map fun k => [.v (.int .u8 (if k < j then bodyV l a k else 0))]
def bodyS (l : List Int) (a n : Nat) : ByteArray := ⟨((List.range n).map fun k => (bodyV l a k).toNat.toUInt8).toArray⟩
theorem bodyA_le {l : List Int} {a : Nat} (h : a ≤ l.length) : ∀ j, bodyA l a j ≤ l.length
  | 0 => h
  | j + 1 => nN_le (bodyA_le h j)
theorem bodyS_size (l : List Int) (a n : Nat) : (bodyS l a n).size = n := by simp [bodyS, ByteArray.size]
theorem bodyR_len (l : List Int) (a n j : Nat) : (bodyR l a n j).length = n := by simp [bodyR]
theorem bodyR_zero (l : List Int) (a n : Nat) : List.replicate n [AV.v (.int .u8 0)] = bodyR l a n 0 := by
  refine List.ext_getElem (by simp [bodyR]) fun i h1 h2 => by simp [bodyR]
theorem bodyR_set (l : List Int) (a n j : Nat) : (bodyR l a n j).set j [.v (.int .u8 (bodyV l a j))] = bodyR l a n (j + 1) := by
  refine List.ext_getElem (by simp [bodyR]) fun i h1 h2 => ?_
  simp only [bodyR, List.getElem_set, List.getElem_map, List.getElem_range]
  by_cases e : j = i
  · subst e; simp
  · rw [if_neg e]
    have : (i < j) = (i < j + 1) := by simp only [eq_iff_iff]; omega
    simp only [this]
theorem bytesOfL_map (f : Nat → Int) : ∀ ks : List Nat, bytesOfL (ks.map fun k => [.v (.int .u8 (f k))]) = some (ks.map fun k => (f k).toNat.toUInt8)
  | [] => rfl
  | k :: ks => by simp only [List.map_cons, bytesOfL, bytesOfL_map f ks]
theorem bodyR_bytes (l : List Int) (a n : Nat) : bytesOf (bodyR l a n n) = some (bodyS l a n) := by
  have e : bodyR l a n n = (List.range n).map fun k => [.v (.int .u8 (bodyV l a k))] := by
    refine List.map_congr_left fun k hk => ?_
    rw [if_pos (List.mem_range.1 hk)]
  rw [e]
  simp only [bytesOf, bytesOfL_map (bodyV l a)]
  rfl
theorem bodyR_nth (l : List Int) (a n j : Nat) (h : j < n) : ∃ z, nth (bodyR l a n j) j = [.v (.int .u8 z)] := ⟨_, by simp [nth, bodyR, h]; rfl⟩

theorem fn35 (l : List Int) (a : Nat) (hl : l.length ≤ 4000) :
    Fn Tryz.prog 35 [.ptr 0 0] [srcB l a] (.v (.string (bodyS l (nN l a 4) (nV l a 4).toNat))) [srcB l (bodyA l (nN l a 4) (nV l a 4).toNat)] [] := by
  refine Fn.of_go ok35 (by simp) ?_
  unfold s35
  simp only [go_sem, reduceIte, Nat.reduceAdd, Nat.reduceMul, Nat.reduceSub, Nat.reduceEqDiff, Nat.reduceLeDiff, Nat.reduceLT, reduceCtorEq, Nat.succ_eq_add_one]
  refine goCall1 (b := 0) (fn19 l a 4 hl (by omega)) ⟨rfl, ⟨rfl, rfl⟩, trivial⟩ rfl rfl rfl rfl ?_
  have h0 := nV_lo l a 4
  have h1 := nV_hi l a (n := 4) (by omega)
  obtain ⟨n, hn⟩ : ∃ n : Nat, nV l a 4 = (n : Int) := ⟨(nV l a 4).toNat, by omega⟩
  have hn3 : n ≤ 3 := by omega
  simp only [hn, Int.toNat_natCast, List.map_cons, List.map_nil, bodyR_zero l (nN l a 4) n, go_sem, reduceIte, Nat.reduceAdd, Nat.reduceMul, Nat.reduceSub, Nat.reduceEqDiff, Nat.reduceLeDiff, Nat.reduceLT, reduceCtorEq, Nat.succ_eq_add_one]
  refine ⟨⟨by omega, by omega, by omega⟩, ?_⟩
  refine go_loop (fun j : {j : Nat // j ≤ n} => ⟨1000, [(0, .ptr 0 0), (3, .own 32 1 0 n), (4, I j.1)], [(0, .box (srcB l (bodyA l (nN l a 4) j.1))), (32, .row 5 1 (bodyR l (nN l a 4) n j.1))]⟩) (fun j => n - j.1) ⟨0, by omega⟩
    (Wk.mk [(0, 0), (32, 32)] [] rfl rfl (by simp only [rvH, rvO, rvL, rv, bodyA, go_sem, reduceIte, Nat.reduceAdd, Nat.reduceMul, Nat.reduceSub, Nat.reduceEqDiff, Nat.reduceLeDiff, Nat.reduceLT, reduceCtorEq, Nat.succ_eq_add_one]) (by simp only [go_sem, reduceIte, Nat.reduceAdd, Nat.reduceMul, Nat.reduceSub, Nat.reduceEqDiff, Nat.reduceLeDiff, Nat.reduceLT, reduceCtorEq, Nat.succ_eq_add_one]) (by simp only [rv, bodyA, go_sem, reduceIte, Nat.reduceAdd, Nat.reduceMul, Nat.reduceSub, Nat.reduceEqDiff, Nat.reduceLeDiff, Nat.reduceLT, reduceCtorEq, Nat.succ_eq_add_one]; rfl)) ?_
  intro j B hB
  simp only [go_sem, reduceIte, Nat.reduceAdd, Nat.reduceMul, Nat.reduceSub, Nat.reduceEqDiff, Nat.reduceLeDiff, Nat.reduceLT, reduceCtorEq, Nat.succ_eq_add_one]
  refine goIf_split (fun h2 => ?_) (fun h2 => ?_) <;> simp only [h2, go_sem, reduceIte, Nat.reduceAdd, Nat.reduceMul, Nat.reduceSub, Nat.reduceEqDiff, Nat.reduceLeDiff, Nat.reduceLT, reduceCtorEq, Nat.succ_eq_add_one]
  · have e1 : j.1 < n := by simp only [decide_eq_true_eq] at h2; omega
    refine goCall1 (b := 0) (fn19 l (bodyA l (nN l a 4) j.1) 3 hl (by omega)) ⟨rfl, ⟨rfl, rfl⟩, trivial⟩ rfl rfl rfl rfl ?_
    obtain ⟨z, hz⟩ := bodyR_nth l (nN l a 4) n j.1 e1
    have h5 := nV_lo l (bodyA l (nN l a 4) j.1) 3
    have h6 := nV_hi l (bodyA l (nN l a 4) j.1) (n := 3) (by omega)
    have h7 : IntKind.u8.wrap (97 + nV l (bodyA l (nN l a 4) j.1) 3) = bodyV l (nN l a 4) j.1 := by rw [IntKind.wrap_u8]; unfold bodyV; omega
    simp only [w64 (n := 97 + nV l (bodyA l (nN l a 4) j.1) 3) (by omega), h7, w64_succ (show j.1 ≤ 100000 by omega), Int.toNat_natCast, hz, bodyR_len, List.drop_one, List.tail_cons, bodyR_set, go_sem, reduceIte, Nat.reduceAdd, Nat.reduceMul, Nat.reduceSub, Nat.reduceEqDiff, Nat.reduceLeDiff, Nat.reduceLT, reduceCtorEq, Nat.succ_eq_add_one]
    refine ⟨⟨by omega, by omega⟩, e1, ?_⟩
    exact hB _ ⟨j.1 + 1, e1⟩ (by simp only; omega) (Wk.mk [(0, 0), (32, 32)] [] rfl rfl (by simp only [rvH, rvO, rvL, rv, bodyA, go_sem, reduceIte, Nat.reduceAdd, Nat.reduceMul, Nat.reduceSub, Nat.reduceEqDiff, Nat.reduceLeDiff, Nat.reduceLT, reduceCtorEq, Nat.succ_eq_add_one]) (by simp only [go_sem, reduceIte, Nat.reduceAdd, Nat.reduceMul, Nat.reduceSub, Nat.reduceEqDiff, Nat.reduceLeDiff, Nat.reduceLT, reduceCtorEq, Nat.succ_eq_add_one]) (by simp only [rv, go_sem, reduceIte, Nat.reduceAdd, Nat.reduceMul, Nat.reduceSub, Nat.reduceEqDiff, Nat.reduceLeDiff, Nat.reduceLT, reduceCtorEq, Nat.succ_eq_add_one]))
  · have e1 : j.1 = n := by have := j.2; simp only [decide_eq_false_iff_not] at h2; omega
    have h8 : List.take n (bodyR l (nN l a 4) n n) = bodyR l (nN l a 4) n n := List.take_of_length_le (by rw [bodyR_len]; omega)
    have h9 := bodyR_bytes l (nN l a 4) n
    simp only [bytesOf] at h9
    simp only [e1, h8, h9, bodyR_len, go_sem, reduceIte, Nat.reduceAdd, Nat.reduceMul, Nat.reduceSub, Nat.reduceEqDiff, Nat.reduceLeDiff, Nat.reduceLT, reduceCtorEq, Nat.succ_eq_add_one]
    refine ⟨by omega, Fin.eq1 _ rfl rfl rfl rfl rfl rfl ?_⟩
    simp only [retOne]

def intoV (r lo hi : Int) : Int := if r < 0 then 0 else if 65536 ≤ r then 0 else if lo < 0 then 0 else if 65536 ≤ hi then 0 else if hi < lo then 0 else if lo ≤ r then if r ≤ hi then r else lo + r.tmod (hi - lo + 1) else lo + r.tmod (hi - lo + 1)
theorem intoV_in (r : Int) {lo hi : Int} (h0 : 0 ≤ lo) (h : lo ≤ hi) (h1 : hi < 65536) : (lo ≤ intoV r lo hi ∨ intoV r lo hi = 0) ∧ intoV r lo hi ≤ hi ∧ 0 ≤ intoV r lo hi := by
  unfold intoV
  have := Int.tmod_nonneg (hi - lo + 1) (a := r)
  have := Int.tmod_lt_of_pos r (b := hi - lo + 1) (by omega)
  repeat' split
  all_goals omega

theorem fn56 (r lo hi : Int) : Fn Tryz.prog 56 [I r, I lo, I hi] [] (I (intoV r lo hi)) [] [] := by
  refine Fn.of_go ok56 (by simp) ?_
  unfold s56 intoV
  simp only [go_sem, reduceIte, Nat.reduceAdd, Nat.reduceMul, Nat.reduceSub, Nat.reduceEqDiff, Nat.reduceLeDiff, Nat.reduceLT, reduceCtorEq, Nat.succ_eq_add_one]
  by_cases h1 : r < 0
  · simp only [h1, if_true, decide_true, go_sem, reduceIte, Nat.reduceAdd, Nat.reduceMul, Nat.reduceSub, Nat.reduceEqDiff, Nat.reduceLeDiff, Nat.reduceLT, reduceCtorEq, Nat.succ_eq_add_one]
    exact Fin.eq0 _ rfl rfl rfl rfl
  by_cases h2 : 65536 ≤ r
  · simp only [h1, h2, if_true, if_false, decide_true, decide_false, go_sem, reduceIte, Nat.reduceAdd, Nat.reduceMul, Nat.reduceSub, Nat.reduceEqDiff, Nat.reduceLeDiff, Nat.reduceLT, reduceCtorEq, Nat.succ_eq_add_one]
    exact Fin.eq0 _ rfl rfl rfl rfl
  by_cases h3 : lo < 0
  · simp only [h1, h2, h3, if_true, if_false, decide_true, decide_false, go_sem, reduceIte, Nat.reduceAdd, Nat.reduceMul, Nat.reduceSub, Nat.reduceEqDiff, Nat.reduceLeDiff, Nat.reduceLT, reduceCtorEq, Nat.succ_eq_add_one]
    exact Fin.eq0 _ rfl rfl rfl rfl
  by_cases h4 : 65536 ≤ hi
  · simp only [h1, h2, h3, h4, if_true, if_false, decide_true, decide_false, go_sem, reduceIte, Nat.reduceAdd, Nat.reduceMul, Nat.reduceSub, Nat.reduceEqDiff, Nat.reduceLeDiff, Nat.reduceLT, reduceCtorEq, Nat.succ_eq_add_one]
    exact Fin.eq0 _ rfl rfl rfl rfl
  by_cases h5 : hi < lo
  · simp only [h1, h2, h3, h4, h5, if_true, if_false, decide_true, decide_false, go_sem, reduceIte, Nat.reduceAdd, Nat.reduceMul, Nat.reduceSub, Nat.reduceEqDiff, Nat.reduceLeDiff, Nat.reduceLT, reduceCtorEq, Nat.succ_eq_add_one]
    exact Fin.eq0 _ rfl rfl rfl rfl
  have ht := tmod_le (x := r) (show 0 < hi - lo + 1 by omega)
  have ht' := Int.tmod_nonneg (hi - lo + 1) (show 0 ≤ r by omega)
  by_cases h6 : lo ≤ r
  · by_cases h7 : r ≤ hi
    · simp only [h1, h2, h3, h4, h5, h6, h7, if_true, if_false, decide_true, decide_false, go_sem, reduceIte, Nat.reduceAdd, Nat.reduceMul, Nat.reduceSub, Nat.reduceEqDiff, Nat.reduceLeDiff, Nat.reduceLT, reduceCtorEq, Nat.succ_eq_add_one]
      exact Fin.eq0 _ rfl rfl rfl rfl
    · simp only [h1, h2, h3, h4, h5, h6, h7, if_true, if_false, decide_true, decide_false, w64 (n := hi - lo) (by omega), w64 (n := hi - lo + 1) (by omega), w64 (n := lo + r.tmod (hi - lo + 1)) (by omega), go_sem, reduceIte, Nat.reduceAdd, Nat.reduceMul, Nat.reduceSub, Nat.reduceEqDiff, Nat.reduceLeDiff, Nat.reduceLT, reduceCtorEq, Nat.succ_eq_add_one]
      exact ⟨by omega, Fin.eq0 _ rfl rfl rfl rfl⟩
  · simp only [h1, h2, h3, h4, h5, h6, if_true, if_false, decide_true, decide_false, w64 (n := hi - lo) (by omega), w64 (n := hi - lo + 1) (by omega), w64 (n := lo + r.tmod (hi - lo + 1)) (by omega), go_sem, reduceIte, Nat.reduceAdd, Nat.reduceMul, Nat.reduceSub, Nat.reduceEqDiff, Nat.reduceLeDiff, Nat.reduceLT, reduceCtorEq, Nat.succ_eq_add_one]
    exact ⟨by omega, Fin.eq0 _ rfl rfl rfl rfl⟩
end Go.Eng
