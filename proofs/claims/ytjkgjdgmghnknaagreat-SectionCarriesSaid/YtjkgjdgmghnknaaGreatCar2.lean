/-
  Walks and plain lemmas for SectionCarries: what the functions named below compute, over the abstract states of the engine.
  No condition beyond those that each theorem states.
-/
import Derived.Test.YtjkgjdgmghnknaaGreatCar1
set_option linter.all false
set_option linter.unusedSimpArgs false
set_option maxRecDepth 100000
set_option maxHeartbeats 4000000
namespace Go.Eng
open Go Go.Proofs

theorem use18 (l : List Int) (a : Nat) (id : Int) (hl : l.length ≤ 4000) : FnG Tryz.prog 18 [.ptr 0 0, I id, I 0, I 9] [srcB l a] [] (.agg (msgV l a id 0 9).enc) [srcB l (msgN l a)] [] :=
  FnG.of_Fn (fn18 l a id 0 9 hl) rfl rfl (by simp)
theorem use19 (l : List Int) (a : Nat) (hl : l.length ≤ 4000) : FnG Tryz.prog 19 [.ptr 0 0, I 3] [srcB l a] [] (I (nV l a 3)) [srcB l (nN l a 3)] [] :=
  FnG.of_Fn (fn19 l a 3 hl (by omega)) rfl rfl (by simp)
theorem use23 (m1 m2 : Msg) : UseOk Tryz.prog (useS m1 m2) := FnG.of_Fn (fn23 [m1, m2] (by show 2 ≤ 100000; omega)) rfl rfl (by show 0 ≤ 4; omega)

theorem valC (l : List Int) (hl : l.length ≤ 4000) (v : Int) (hv : nV l (msgN l (msgN l 0)) 3 = v) :
    Valid Tryz.prog (usesC (.sl 1 (encI l)) (I (0 : Nat)) (I (msgN l 0)) (I (msgN l (msgN l 0))) (I (nN l (msgN l (msgN l 0)) 3)) (msgV l 0 1 0 9) (msgV l (msgN l 0) 2 0 9) v) := by
  intro u hu
  simp only [usesC, List.mem_cons, List.not_mem_nil, or_false] at hu
  rcases hu with rfl | rfl | rfl
  · have := use19 l (msgN l (msgN l 0)) hl
    rw [hv] at this
    exact this
  · exact use18 l (msgN l 0) 2 hl
  · exact use18 l 0 1 hl
theorem Valid.cons {P : Program} {u : Use} {O : List Use} (h2 : Valid P O) (h1 : UseOk P u) : Valid P (u :: O) := fun x hx => by
  rcases List.mem_cons.1 hx with rfl | hx
  · exact h1
  · exact h2 x hx

theorem fn3 (l : List Int) : FnG Tryz.prog 3 [.sl 1 (encI l)] [] [] (Bo true) [] [] := by
  have ok : FnOk Tryz.prog 3 (sqs [_, _] _) _ _ := ok3
  refine FnG.of_parts ok (by simp) ?_
  simp only [List.map, wkS, outs, boxesFrom, obsFrom, List.nil_append, go_sem, reduceIte, Nat.reduceAdd, Nat.reduceMul, Nat.reduceSub, Nat.reduceEqDiff, Nat.reduceLeDiff, Nat.reduceLT, reduceCtorEq, Nat.succ_eq_add_one]
  refine goCallE (fn15 l) rfl rfl (by simp) rfl ?_
  simp only [obsFrom, sh, wkS, go_sem, reduceIte, Nat.reduceAdd, Nat.reduceMul, Nat.reduceSub, Nat.reduceEqDiff, Nat.reduceLeDiff, Nat.reduceLT, reduceCtorEq, Nat.succ_eq_add_one]
  have hl : (l.take 4000).length ≤ 4000 := by simp; omega
  generalize l.take 4000 = l' at hl ⊢
  obtain ⟨hook, O, hr, hv⟩ : ∃ (hook : Hook) (O : List Use), endK (c3r (runFx hook [18, 19, 23] smAt codeF 100000) 40 (T3 24) [(24, .box (srcB l' 0))] []) [.tmp 2] = some (Bo true, O) ∧ Valid Tryz.prog O := by
    have h1 := nV_lo l' (msgN l' (msgN l' 0)) 3
    have h2 := nV_hi l' (msgN l' (msgN l' 0)) (n := 3) (by omega)
    have h3 : nV l' (msgN l' (msgN l' 0)) 3 = 0 ∨ nV l' (msgN l' (msgN l' 0)) 3 = 1 ∨ nV l' (msgN l' (msgN l' 0)) 3 = 2 := by omega
    rcases h3 with h3 | h3 | h3
    · exact ⟨_, _, run0 (encI l') (0 : Nat) (msgN l' 0) (msgN l' (msgN l' 0)) (nN l' (msgN l' (msgN l' 0)) 3) (msgV l' 0 1 0 9) (msgV l' (msgN l' 0) 2 0 9), valC l' hl 0 h3⟩
    · exact ⟨_, _, run1 (encI l') (0 : Nat) (msgN l' 0) (msgN l' (msgN l' 0)) (nN l' (msgN l' (msgN l' 0)) 3) (msgV l' 0 1 0 9) (msgV l' (msgN l' 0) 2 0 9), (valC l' hl 1 h3).cons (use23 _ _)⟩
    · exact ⟨_, _, run2 (encI l') (0 : Nat) (msgN l' 0) (msgN l' (msgN l' 0)) (nN l' (msgN l' (msgN l' 0)) 3) (msgV l' 0 1 0 9) (msgV l' (msgN l' 0) 2 0 9), (valC l' hl 2 h3).cons (use23 _ _)⟩
  refine Wps.run (runFx_ok smAt_ok codeF_ok 100000) (StmOk.of (by kernel_rfl) (by kernel_rfl)) ((view_frOfL [(2, Bo false), (3, .ptr 24 0)]).sub fun k x hk => ?_) (fun _ => rfl) hr hv
  simp only [get] at hk ⊢
  by_cases e2 : 2 = k
  · subst e2; simpa using hk
  · by_cases e3 : 3 = k
    · subst e3; simpa using hk
    · simp [e2, e3] at hk

end Go.Eng
