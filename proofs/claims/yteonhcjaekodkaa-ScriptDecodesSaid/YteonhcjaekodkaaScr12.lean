/-
  Walks and plain lemmas for ScriptDecodes: what the functions named below compute, over the abstract states of the engine.
  No condition beyond those that each theorem states.
-/
import Derived.Test.YteonhcjaekodkaaScr11
set_option linter.all false
set_option linter.unusedSimpArgs false
set_option maxRecDepth 20000
set_option maxHeartbeats 4000000
namespace Go.Eng
open Go Go.Proofs

theorem fn17n (a b c d e f g i j : Int) (x : AV) (hx : Fn Try.prog 107 [x, x] [] (Bo true) [] []) (hp : x.pure = true) (ho : x.one = true) :
    Fn Try.prog 17 [.agg [I a, I b, I c, I d, I e, I f, I g, I i, I j, x, Nl, Nl], .agg [I a, I b, I c, I d, I e, I f, I g, I i, I j, x, Nl, Nl]] [] (Bo true) [] [] := by
  refine Fn.of_go ok17 (by simp) ?_
  unfold s17
  simp only [ho, hp, go_sem, reduceIte, Nat.reduceAdd, Nat.reduceMul, Nat.reduceSub, Nat.reduceEqDiff, Nat.reduceLeDiff, Nat.reduceLT, reduceCtorEq, Nat.succ_eq_add_one]
  refine goCall0 (fn60 d e f g i j x hx hp ho) (by simp only [hp, go_sem, reduceIte, Nat.reduceAdd, Nat.reduceMul, Nat.reduceSub, Nat.reduceEqDiff, Nat.reduceLeDiff, Nat.reduceLT, reduceCtorEq, Nat.succ_eq_add_one]) rfl ?_
  simp only [ho, hp, go_sem, reduceIte, Nat.reduceAdd, Nat.reduceMul, Nat.reduceSub, Nat.reduceEqDiff, Nat.reduceLeDiff, Nat.reduceLT, reduceCtorEq, Nat.succ_eq_add_one]
  refine go_loop (fun _ : Unit => ⟨1000, [(2, .ptr 8 0), (3, .ptr 16 0), (5, Z)], [(8, .box [I a, I b, I c, I d, I e, I f, I g, I i, I j, x, Nl, Nl]), (16, .box [I a, I b, I c, I d, I e, I f, I g, I i, I j, x, Nl, Nl])]⟩) (fun _ => 0) ()
    (Wk.mk [(8, 8), (16, 16)] [] rfl rfl (by simp only [rv, rv_pure x hp, go_sem, reduceIte, Nat.reduceAdd, Nat.reduceMul, Nat.reduceSub, Nat.reduceEqDiff, Nat.reduceLeDiff, Nat.reduceLT, reduceCtorEq, Nat.succ_eq_add_one]) (by simp only [go_sem, reduceIte, Nat.reduceAdd, Nat.reduceMul, Nat.reduceSub, Nat.reduceEqDiff, Nat.reduceLeDiff, Nat.reduceLT, reduceCtorEq, Nat.succ_eq_add_one]) (by simp only [rv, go_sem, reduceIte, Nat.reduceAdd, Nat.reduceMul, Nat.reduceSub, Nat.reduceEqDiff, Nat.reduceLeDiff, Nat.reduceLT, reduceCtorEq, Nat.succ_eq_add_one])) ?_
  intro _ B hB
  simp only [go_sem, reduceIte, Nat.reduceAdd, Nat.reduceMul, Nat.reduceSub, Nat.reduceEqDiff, Nat.reduceLeDiff, Nat.reduceLT, reduceCtorEq, Nat.succ_eq_add_one]
  exact Fin.eq0 _ rfl rfl rfl rfl

theorem fn17r (a b c d e f g i j : Int) (x : AV) (rs : List (List AV)) (hx : Fn Try.prog 107 [x, x] [] (Bo true) [] []) (hp : x.pure = true) (ho : x.one = true) (hl : rs.length ≤ 100000)
    (hr : ∀ k, k < rs.length → ∃ u v raw, nth rs k = [I u, I v, raw] ∧ Fn Try.prog 53 [raw, raw] [] (Bo true) [] [] ∧ raw.pure = true) :
    Fn Try.prog 17 [.agg [I a, I b, I c, I d, I e, I f, I g, I i, I j, x, Nl, .sl 3 rs], .agg [I a, I b, I c, I d, I e, I f, I g, I i, I j, x, Nl, .sl 3 rs]] [] (Bo true) [] [] := by
  refine Fn.of_go ok17 (by simp) ?_
  unfold s17
  simp only [ho, hp, go_sem, reduceIte, Nat.reduceAdd, Nat.reduceMul, Nat.reduceSub, Nat.reduceEqDiff, Nat.reduceLeDiff, Nat.reduceLT, reduceCtorEq, Nat.succ_eq_add_one]
  refine goCall0 (fn60 d e f g i j x hx hp ho) (by simp only [hp, go_sem, reduceIte, Nat.reduceAdd, Nat.reduceMul, Nat.reduceSub, Nat.reduceEqDiff, Nat.reduceLeDiff, Nat.reduceLT, reduceCtorEq, Nat.succ_eq_add_one]) rfl ?_
  simp only [ho, hp, go_sem, reduceIte, Nat.reduceAdd, Nat.reduceMul, Nat.reduceSub, Nat.reduceEqDiff, Nat.reduceLeDiff, Nat.reduceLT, reduceCtorEq, Nat.succ_eq_add_one]
  refine go_loop (fun q : {q : Nat // q ≤ rs.length} => ⟨1000, [(2, .ptr 8 0), (3, .ptr 16 0), (5, I q.1)], [(8, .box [I a, I b, I c, I d, I e, I f, I g, I i, I j, x, Nl, .sl 3 rs]), (16, .box [I a, I b, I c, I d, I e, I f, I g, I i, I j, x, Nl, .sl 3 rs])]⟩) (fun q => rs.length - q.1) ⟨0, by omega⟩
    (Wk.mk [(8, 8), (16, 16)] [] rfl rfl (by simp only [rv, rv_pure x hp, go_sem, reduceIte, Nat.reduceAdd, Nat.reduceMul, Nat.reduceSub, Nat.reduceEqDiff, Nat.reduceLeDiff, Nat.reduceLT, reduceCtorEq, Nat.succ_eq_add_one]) (by simp only [go_sem, reduceIte, Nat.reduceAdd, Nat.reduceMul, Nat.reduceSub, Nat.reduceEqDiff, Nat.reduceLeDiff, Nat.reduceLT, reduceCtorEq, Nat.succ_eq_add_one]) (by simp only [rv, go_sem, reduceIte, Nat.reduceAdd, Nat.reduceMul, Nat.reduceSub, Nat.reduceEqDiff, Nat.reduceLeDiff, Nat.reduceLT, reduceCtorEq, Nat.succ_eq_add_one]; rfl)) ?_
  intro q B hB
  simp only [go_sem, reduceIte, Nat.reduceAdd, Nat.reduceMul, Nat.reduceSub, Nat.reduceEqDiff, Nat.reduceLeDiff, Nat.reduceLT, reduceCtorEq, Nat.succ_eq_add_one]
  refine goIf_split (fun h1 => ?_) (fun h1 => ?_) <;> simp only [h1, go_sem, reduceIte, Nat.reduceAdd, Nat.reduceMul, Nat.reduceSub, Nat.reduceEqDiff, Nat.reduceLeDiff, Nat.reduceLT, reduceCtorEq, Nat.succ_eq_add_one]
  · have e1 : q.1 < rs.length := by simp only [decide_eq_true_eq] at h1; omega
    obtain ⟨u, v, raw, hn, h53, hrp⟩ := hr q.1 e1
    simp only [Int.toNat_natCast, hn, w64_succ (show q.1 ≤ 100000 by omega), go_sem, reduceIte, Nat.reduceAdd, Nat.reduceMul, Nat.reduceSub, Nat.reduceEqDiff, Nat.reduceLeDiff, Nat.reduceLT, reduceCtorEq, Nat.succ_eq_add_one]
    have hq : 0 ≤ (q.1 : Int) ∧ (q.1 : Int) < (rs.length : Int) := ⟨by omega, by omega⟩
    refine ⟨hq, hq, hq, hq, hq, hq, ?_⟩
    refine goCallD0 h53 (by simp only [hrp, go_sem, reduceIte, Nat.reduceAdd, Nat.reduceMul, Nat.reduceSub, Nat.reduceEqDiff, Nat.reduceLeDiff, Nat.reduceLT, reduceCtorEq, Nat.succ_eq_add_one]) rfl ?_
    simp only [go_sem, reduceIte, Nat.reduceAdd, Nat.reduceMul, Nat.reduceSub, Nat.reduceEqDiff, Nat.reduceLeDiff, Nat.reduceLT, reduceCtorEq, Nat.succ_eq_add_one]
    refine ⟨rfl, hB _ ⟨q.1 + 1, e1⟩ (by simp only; omega) (Wk.mk [(8, 8), (16, 16)] [] rfl rfl (by simp only [rv, rv_pure x hp, go_sem, reduceIte, Nat.reduceAdd, Nat.reduceMul, Nat.reduceSub, Nat.reduceEqDiff, Nat.reduceLeDiff, Nat.reduceLT, reduceCtorEq, Nat.succ_eq_add_one]) (by simp only [go_sem, reduceIte, Nat.reduceAdd, Nat.reduceMul, Nat.reduceSub, Nat.reduceEqDiff, Nat.reduceLeDiff, Nat.reduceLT, reduceCtorEq, Nat.succ_eq_add_one]) (by simp only [rv, w64_succ (show q.1 ≤ 100000 by omega), go_sem, reduceIte, Nat.reduceAdd, Nat.reduceMul, Nat.reduceSub, Nat.reduceEqDiff, Nat.reduceLeDiff, Nat.reduceLT, reduceCtorEq, Nat.succ_eq_add_one]))⟩
  · exact Fin.eq0 _ rfl rfl rfl rfl
end Go.Eng
