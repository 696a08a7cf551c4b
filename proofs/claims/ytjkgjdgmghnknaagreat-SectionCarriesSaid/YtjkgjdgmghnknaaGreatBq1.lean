/-
  Walks and plain lemmas for SectionCarries: what the functions named below compute, over the abstract states of the engine.
  No condition beyond those that each theorem states.
-/
import Derived.Test.YtjkgjdgmghnknaaGreatEngQSectionCarries1
import Derived.Test.YtjkgjdgmghnknaaGreatEngQSectionCarries2
import Derived.Test.YtjkgjdgmghnknaaGreatEngF
set_option linter.all false
set_option linter.unusedSimpArgs false
set_option maxRecDepth 20000
set_option maxHeartbeats 4000000
namespace Go.Eng
open Go Go.Proofs

abbrev I (n : Int) : AV := .v (.int .i64 n)
abbrev Bo (b : Bool) : AV := .v (.bool b)
abbrev Nl : AV := .v (.slice none 0 0)
abbrev Z : AV := .v (.int .i64 0)
def encI (l : List Int) : List (List AV) := l.map fun z => [I z]
theorem encI_len (l : List Int) : (encI l).length = l.length := by simp [encI]
theorem encI_nth {l : List Int} {k : Nat} (h : k < l.length) : nth (encI l) k = [I l[k]] := by simp [encI, nth, h]
theorem encI_take (l : List Int) (k : Nat) : (encI l).take k = encI (l.take k) := by simp [encI, List.map_take]
theorem w64 {n : Int} (h : -9223372036854775808 ≤ n ∧ n ≤ 9223372036854775807) : IntKind.i64.wrap n = n := by
  rw [IntKind.wrap_i64]; omega
theorem w64_succ {p : Nat} (h : p ≤ 100000) : IntKind.i64.wrap ((p : Int) + 1) = ((p + 1 : Nat) : Int) := by rw [w64 (by omega)]; omega
theorem w64_pred {p : Nat} (h : p ≤ 100000) : IntKind.i64.wrap (((p + 1 : Nat) : Int) - 1) = (p : Int) := by rw [w64 (by omega)]; omega
theorem bneI (n : Int) : (n != n) = false := by simp
theorem bneB (n : Bool) : (n != n) = false := by simp
theorem sl_pure (sz : Nat) (xs : List (List AV)) : (AV.sl sz xs).pure = true := rfl
attribute [go_sem] encI_len

abbrev srcB (l : List Int) (a : Nat) : List AV := [.sl 1 (encI l), I a]
def rawV (l : List Int) (a : Nat) : Int := l[a]?.getD 0
def rawN (l : List Int) (a : Nat) : Nat := if a < l.length then a + 1 else a
theorem rawN_le {l : List Int} {a : Nat} (h : a ≤ l.length) : rawN l a ≤ l.length := by unfold rawN; split <;> omega
theorem rawV_in {l : List Int} {a : Nat} (h : a < l.length) : rawV l a = l[a] := by simp [rawV, h]

theorem fn57 (l : List Int) (a : Nat) (hl : l.length ≤ 4000) : Fn Tryz.prog 57 [.ptr 0 0] [srcB l a] (I (rawV l a)) [srcB l (rawN l a)] [] := by
  refine Fn.of_go ok57 (by simp) ?_
  unfold s57
  simp only [go_sem, reduceIte, Nat.reduceAdd, Nat.reduceMul, Nat.reduceSub, Nat.reduceEqDiff, Nat.reduceLeDiff, Nat.reduceLT, reduceCtorEq, Nat.succ_eq_add_one]
  refine ⟨rfl, goIf_split (fun h1 => ?_) (fun h1 => ?_)⟩ <;> simp only [h1, go_sem, reduceIte, Nat.reduceAdd, Nat.reduceMul, Nat.reduceSub, Nat.reduceEqDiff, Nat.reduceLeDiff, Nat.reduceLT, reduceCtorEq, Nat.succ_eq_add_one]
  · have e1 : ¬ a < l.length := by simp only [decide_eq_true_eq] at h1; omega
    refine Fin.eq1 _ rfl rfl rfl rfl rfl ?_ ?_
    · simp only [rawN, e1, go_sem, reduceIte, Nat.reduceAdd, Nat.reduceMul, Nat.reduceSub, Nat.reduceEqDiff, Nat.reduceLeDiff, Nat.reduceLT, reduceCtorEq, Nat.succ_eq_add_one]
    · simp only [rawV, List.getElem?_eq_none (show l.length ≤ a by omega), retOne]; rfl
  · have e1 : a < l.length := by simp only [decide_eq_false_iff_not] at h1; omega
    simp only [w64_succ (show a ≤ 100000 by omega), w64_pred (show a ≤ 100000 by omega), Int.toNat_natCast, encI_nth e1, go_sem, reduceIte, Nat.reduceAdd, Nat.reduceMul, Nat.reduceSub, Nat.reduceEqDiff, Nat.reduceLeDiff, Nat.reduceLT, reduceCtorEq, Nat.succ_eq_add_one]
    refine ⟨⟨by omega, by omega⟩, rfl, ?_⟩
    refine Fin.eq1 _ rfl rfl rfl rfl rfl ?_ ?_
    · simp only [rawN, e1, go_sem, reduceIte, Nat.reduceAdd, Nat.reduceMul, Nat.reduceSub, Nat.reduceEqDiff, Nat.reduceLeDiff, Nat.reduceLT, reduceCtorEq, Nat.succ_eq_add_one]
    · simp only [rawV_in e1, retOne]

theorem tmod_le {x n : Int} (h : 0 < n) : -n < x.tmod n ∧ x.tmod n < n := by
  have h1 := Int.tmod_lt_of_pos x h
  have h2 := Int.lt_tmod_of_pos x h
  exact ⟨h2, h1⟩

def nV (l : List Int) (a : Nat) (n : Int) : Int := if n < 1 then 0 else if (rawV l a).tmod n < 0 then (rawV l a).tmod n + n else (rawV l a).tmod n
def nN (l : List Int) (a : Nat) (n : Int) : Nat := if n < 1 then a else rawN l a
theorem nV_lo (l : List Int) (a : Nat) (n : Int) : 0 ≤ nV l a n := by
  unfold nV
  split
  · omega
  · have ht := tmod_le (x := rawV l a) (show 0 < n by omega)
    split <;> omega
theorem nV_hi (l : List Int) (a : Nat) {n : Int} (h : 1 ≤ n) : nV l a n < n := by
  unfold nV
  rw [if_neg (by omega)]
  have ht := tmod_le (x := rawV l a) (show 0 < n by omega)
  split <;> omega
theorem nV_le (l : List Int) (a : Nat) {n m : Int} (h : n ≤ m + 1) (h0 : 0 ≤ m) : nV l a n ≤ m := by
  by_cases h1 : 1 ≤ n
  · have := nV_hi l a h1; omega
  · unfold nV; rw [if_pos (by omega)]; exact h0
theorem nN_le {l : List Int} {a : Nat} {n : Int} (h : a ≤ l.length) : nN l a n ≤ l.length := by
  unfold nN
  split
  · exact h
  · exact rawN_le h

theorem fn19 (l : List Int) (a : Nat) (n : Int) (hl : l.length ≤ 4000) (hn : n ≤ 1000000) :
    Fn Tryz.prog 19 [.ptr 0 0, I n] [srcB l a] (I (nV l a n)) [srcB l (nN l a n)] [] := by
  refine Fn.of_go ok19 (by simp) ?_
  unfold s19
  simp only [go_sem, reduceIte, Nat.reduceAdd, Nat.reduceMul, Nat.reduceSub, Nat.reduceEqDiff, Nat.reduceLeDiff, Nat.reduceLT, reduceCtorEq, Nat.succ_eq_add_one]
  refine goIf_split (fun h1 => ?_) (fun h1 => ?_)
  · have e : n < 1 := by simpa using h1
    unfold nV nN
    simp only [if_pos e, h1, go_sem, reduceIte, Nat.reduceAdd, Nat.reduceMul, Nat.reduceSub, Nat.reduceEqDiff, Nat.reduceLeDiff, Nat.reduceLT, reduceCtorEq, Nat.succ_eq_add_one]
    exact Fin.eq1 _ rfl rfl rfl rfl rfl rfl rfl
  · have e : ¬ n < 1 := by simpa using h1
    simp only [h1, go_sem, reduceIte, Nat.reduceAdd, Nat.reduceMul, Nat.reduceSub, Nat.reduceEqDiff, Nat.reduceLeDiff, Nat.reduceLT, reduceCtorEq, Nat.succ_eq_add_one]
    refine goCall1 (b := 0) (fn57 l a hl) ⟨rfl, trivial⟩ rfl rfl rfl rfl ?_
    have ht := tmod_le (x := rawV l a) (show 0 < n by omega)
    simp only [go_sem, reduceIte, Nat.reduceAdd, Nat.reduceMul, Nat.reduceSub, Nat.reduceEqDiff, Nat.reduceLeDiff, Nat.reduceLT, reduceCtorEq, Nat.succ_eq_add_one]
    refine ⟨by omega, goIf_split (fun h2 => ?_) (fun h2 => ?_)⟩
    · have e2 : (rawV l a).tmod n < 0 := by simpa using h2
      unfold nV nN
      simp only [if_neg e, if_pos e2, h2, w64 (n := (rawV l a).tmod n + n) (by omega), go_sem, reduceIte, Nat.reduceAdd, Nat.reduceMul, Nat.reduceSub, Nat.reduceEqDiff, Nat.reduceLeDiff, Nat.reduceLT, reduceCtorEq, Nat.succ_eq_add_one]
      exact Fin.eq1 _ rfl rfl rfl rfl rfl rfl rfl
    · have e2 : ¬ (rawV l a).tmod n < 0 := by simpa using h2
      unfold nV nN
      simp only [if_neg e, if_neg e2, h2, go_sem, reduceIte, Nat.reduceAdd, Nat.reduceMul, Nat.reduceSub, Nat.reduceEqDiff, Nat.reduceLeDiff, Nat.reduceLT, reduceCtorEq, Nat.succ_eq_add_one]
      exact Fin.eq1 _ rfl rfl rfl rfl rfl rfl rfl

def rgV (l : List Int) (a : Nat) (lo hi : Int) : Int := lo + nV l a (hi - lo + 1)
def rgN (l : List Int) (a : Nat) (lo hi : Int) : Nat := nN l a (hi - lo + 1)
theorem rgV_lo (l : List Int) (a : Nat) (lo hi : Int) : lo ≤ rgV l a lo hi := by have := nV_lo l a (hi - lo + 1); unfold rgV; omega
theorem rgV_hi (l : List Int) (a : Nat) {lo hi : Int} (h : lo ≤ hi) : rgV l a lo hi ≤ hi := by have := nV_hi l a (n := hi - lo + 1) (by omega); unfold rgV; omega
theorem rgN_le {l : List Int} {a : Nat} {lo hi : Int} (h : a ≤ l.length) : rgN l a lo hi ≤ l.length := nN_le h

theorem fn34 (l : List Int) (a : Nat) (lo hi : Int) (hl : l.length ≤ 4000) (h1 : -100000 ≤ lo ∧ lo ≤ 100000) (h2 : -100000 ≤ hi ∧ hi ≤ 100000) :
    Fn Tryz.prog 34 [.ptr 0 0, I lo, I hi] [srcB l a] (I (rgV l a lo hi)) [srcB l (rgN l a lo hi)] [] := by
  refine Fn.of_go ok34 (by simp) ?_
  unfold s34
  simp only [w64 (n := hi - lo) (by omega), w64 (n := hi - lo + 1) (by omega), go_sem, reduceIte, Nat.reduceAdd, Nat.reduceMul, Nat.reduceSub, Nat.reduceEqDiff, Nat.reduceLeDiff, Nat.reduceLT, reduceCtorEq, Nat.succ_eq_add_one]
  refine goCall1 (b := 0) (fn19 l a (hi - lo + 1) hl (by omega)) ⟨rfl, ⟨rfl, rfl⟩, trivial⟩ rfl rfl rfl rfl ?_
  have h3 := nV_lo l a (hi - lo + 1)
  have h4 := nV_le l a (n := hi - lo + 1) (m := 300000) (by omega) (by omega)
  simp only [w64 (n := lo + nV l a (hi - lo + 1)) (by omega), go_sem, reduceIte, Nat.reduceAdd, Nat.reduceMul, Nat.reduceSub, Nat.reduceEqDiff, Nat.reduceLeDiff, Nat.reduceLT, reduceCtorEq, Nat.succ_eq_add_one]
  exact Fin.eq1 _ rfl rfl rfl rfl rfl rfl rfl

/-- The reader of a law's numbers. -/
theorem fn15 (l : List Int) : Fn Tryz.prog 15 [.sl 1 (encI l)] [] (.ptr 4 0) [] [.box (srcB (l.take 4000) 0)] := by
  refine Fn.of_go ok15 (by simp) ?_
  unfold s15
  simp only [go_sem, reduceIte, Nat.reduceAdd, Nat.reduceMul, Nat.reduceSub, Nat.reduceEqDiff, Nat.reduceLeDiff, Nat.reduceLT, reduceCtorEq, Nat.succ_eq_add_one]
  refine goIf_split (fun h1 => ?_) (fun h1 => ?_)
  · have e : (4000 : Int) < l.length := by simpa using h1
    have e2 : List.drop ((0 : Nat) : Int).toNat (List.take (Int.toNat 4000) (encI l)) = encI (l.take 4000) := by rw [encI_take]; rfl
    simp only [h1, e2, go_sem, reduceIte, Nat.reduceAdd, Nat.reduceMul, Nat.reduceSub, Nat.reduceEqDiff, Nat.reduceLeDiff, Nat.reduceLT, reduceCtorEq, Nat.succ_eq_add_one]
    refine ⟨⟨by omega, by omega, by omega⟩, ⟨[(4, 80)], [], _, rfl, rfl, ?_, ?_, ?_⟩⟩
    · simp only [rvH, outs, boxesFrom, obsFrom, List.map_nil, List.nil_append, rvO, rvL, rv, srcB, go_sem, reduceIte, Nat.reduceAdd, Nat.reduceMul, Nat.reduceSub, Nat.reduceEqDiff, Nat.reduceLeDiff, Nat.reduceLT, reduceCtorEq, Nat.succ_eq_add_one]
      trivial
    · simp only [rvN]
    · simp only [retOne, rv, go_sem, reduceIte, Nat.reduceAdd, Nat.reduceMul, Nat.reduceSub, Nat.reduceEqDiff, Nat.reduceLeDiff, Nat.reduceLT, reduceCtorEq, Nat.succ_eq_add_one]
  · have e : ¬ (4000 : Int) < l.length := by simpa using h1
    have e2 : l.take 4000 = l := List.take_of_length_le (by omega)
    simp only [h1, e2, go_sem, reduceIte, Nat.reduceAdd, Nat.reduceMul, Nat.reduceSub, Nat.reduceEqDiff, Nat.reduceLeDiff, Nat.reduceLT, reduceCtorEq, Nat.succ_eq_add_one]
    refine ⟨[(4, 56)], [], _, rfl, rfl, ?_, ?_, ?_⟩
    · simp only [rvH, outs, boxesFrom, obsFrom, List.map_nil, List.nil_append, rvO, rvL, rv, srcB, go_sem, reduceIte, Nat.reduceAdd, Nat.reduceMul, Nat.reduceSub, Nat.reduceEqDiff, Nat.reduceLeDiff, Nat.reduceLT, reduceCtorEq, Nat.succ_eq_add_one]
      trivial
    · simp only [rvN]
    · simp only [retOne, rv, go_sem, reduceIte, Nat.reduceAdd, Nat.reduceMul, Nat.reduceSub, Nat.reduceEqDiff, Nat.reduceLeDiff, Nat.reduceLT, reduceCtorEq, Nat.succ_eq_add_one]
end Go.Eng
