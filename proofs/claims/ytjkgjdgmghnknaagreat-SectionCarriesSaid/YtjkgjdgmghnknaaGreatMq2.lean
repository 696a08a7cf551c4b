/-
  Walks and plain lemmas for SectionCarries: what the functions named below compute, over the abstract states of the engine.
  No condition beyond those that each theorem states.
-/
import Derived.Test.YtjkgjdgmghnknaaGreatBq4
set_option linter.all false
set_option linter.unusedSimpArgs false
set_option maxRecDepth 20000
set_option maxHeartbeats 4000000
namespace Go.Eng
open Go Go.Proofs

def encM (ms : List Msg) : List (List AV) := ms.map Msg.enc
theorem encM_len (ms : List Msg) : (encM ms).length = ms.length := by simp [encM]
theorem encM_nth {ms : List Msg} {k : Nat} (h : k < ms.length) : nth (encM ms) k = ms[k].enc := by simp [encM, nth, h]
theorem enc_len (m : Msg) : m.enc.length = 7 := rfl
theorem enc_take (m : Msg) : m.enc.take 7 = m.enc := rfl
theorem enc_pure (m : Msg) : pureL m.enc = true := rfl
theorem enc_one (m : Msg) : oneL m.enc = true := rfl
theorem encA_pure (m : Msg) : (AV.agg m.enc).pure = true := rfl
theorem encM_app (xs ys : List Msg) : encM (xs ++ ys) = encM xs ++ encM ys := by simp [encM]
theorem encM_take (xs : List Msg) (k : Nat) : (encM xs).take k = encM (xs.take k) := by simp [encM, List.map_take]
theorem encM_drop (xs : List Msg) (k : Nat) : (encM xs).drop k = encM (xs.drop k) := by simp [encM, List.map_drop]
attribute [go_sem] encM_len enc_len enc_take enc_pure enc_one encA_pure
abbrev slM (ms : List Msg) : AV := .sl 7 (encM ms)
def ids (ms : List Msg) : List Int := ms.map Msg.id
theorem ids_len (ms : List Msg) : (ids ms).length = ms.length := by simp [ids]

theorem eqCells_same : ∀ m : Msg, eqCells [0, 0, 0, 0, 0, 0, 1] m.enc m.enc = some true := fun m => by
  simp [eqCells, Msg.enc]
attribute [go_sem] eqCells_same

/-- Same lists. -/
theorem fn23 (ms : List Msg) (hl : ms.length ≤ 100000) : Fn Tryz.prog 23 [slM ms, slM ms] [] (Bo true) [] [] := by
  refine Fn.of_go ok23 (by simp) ?_
  unfold s23
  simp only [bneI, go_sem, reduceIte, Nat.reduceAdd, Nat.reduceMul, Nat.reduceSub, Nat.reduceEqDiff, Nat.reduceLeDiff, Nat.reduceLT, reduceCtorEq, Nat.succ_eq_add_one]
  refine go_loop (fun j : {j : Nat // j ≤ ms.length} => ⟨1000, [(0, slM ms), (1, slM ms), (5, I j.1)], []⟩) (fun j => ms.length - j.1) ⟨0, by omega⟩ (Wk.mk [] [] rfl rfl (by simp only [go_sem, reduceIte, Nat.reduceAdd, Nat.reduceMul, Nat.reduceSub, Nat.reduceEqDiff, Nat.reduceLeDiff, Nat.reduceLT, reduceCtorEq, Nat.succ_eq_add_one]) (by simp only [go_sem, reduceIte, Nat.reduceAdd, Nat.reduceMul, Nat.reduceSub, Nat.reduceEqDiff, Nat.reduceLeDiff, Nat.reduceLT, reduceCtorEq, Nat.succ_eq_add_one]) (by simp only [rv, go_sem, reduceIte, Nat.reduceAdd, Nat.reduceMul, Nat.reduceSub, Nat.reduceEqDiff, Nat.reduceLeDiff, Nat.reduceLT, reduceCtorEq, Nat.succ_eq_add_one]; try rfl)) ?_
  intro j B hB
  simp only [go_sem, reduceIte, Nat.reduceAdd, Nat.reduceMul, Nat.reduceSub, Nat.reduceEqDiff, Nat.reduceLeDiff, Nat.reduceLT, reduceCtorEq, Nat.succ_eq_add_one]
  refine goIf_split (fun h1 => ?_) (fun h1 => ?_) <;> simp only [h1, go_sem, reduceIte, Nat.reduceAdd, Nat.reduceMul, Nat.reduceSub, Nat.reduceEqDiff, Nat.reduceLeDiff, Nat.reduceLT, reduceCtorEq, Nat.succ_eq_add_one]
  · have e1 : j.1 < ms.length := by simp only [decide_eq_true_eq] at h1; omega
    simp only [Int.toNat_natCast, encM_nth e1, w64_succ (show j.1 ≤ 100000 by omega), go_sem, reduceIte, Nat.reduceAdd, Nat.reduceMul, Nat.reduceSub, Nat.reduceEqDiff, Nat.reduceLeDiff, Nat.reduceLT, reduceCtorEq, Nat.succ_eq_add_one]
    have hq : 0 ≤ (j.1 : Int) ∧ (j.1 : Int) < (ms.length : Int) := ⟨by omega, by omega⟩
    exact ⟨hq, hq, rfl, hB _ ⟨j.1 + 1, e1⟩ (by simp only; omega) (Wk.mk [] [] rfl rfl (by simp only [go_sem, reduceIte, Nat.reduceAdd, Nat.reduceMul, Nat.reduceSub, Nat.reduceEqDiff, Nat.reduceLeDiff, Nat.reduceLT, reduceCtorEq, Nat.succ_eq_add_one]) (by simp only [go_sem, reduceIte, Nat.reduceAdd, Nat.reduceMul, Nat.reduceSub, Nat.reduceEqDiff, Nat.reduceLeDiff, Nat.reduceLT, reduceCtorEq, Nat.succ_eq_add_one]) (by simp only [rv, go_sem, reduceIte, Nat.reduceAdd, Nat.reduceMul, Nat.reduceSub, Nat.reduceEqDiff, Nat.reduceLeDiff, Nat.reduceLT, reduceCtorEq, Nat.succ_eq_add_one]))⟩
  · exact Fin.eq0 _ rfl rfl rfl rfl

end Go.Eng
