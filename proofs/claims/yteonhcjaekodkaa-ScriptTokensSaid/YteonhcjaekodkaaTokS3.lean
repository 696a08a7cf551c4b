/-
  Walks and plain lemmas for ScriptTokens: what the functions named below compute, over the abstract states of the engine.
  No condition beyond those that each theorem states.
-/
import Derived.Test.YteonhcjaekodkaaTokS2
set_option linter.all false
set_option linter.unusedSimpArgs false
namespace Go.Eng.Scr
open Go Go.Proofs

/-- The end of a function that was handed two boxes. -/
theorem Fin.mk2 {res : List SRes} {r : AV} {t : List (Nat × AV)} {h : List (Nat × Ob)} {cs cs' ds ds' : List AV} (xs : List AV) (h1 : retV t h res = some xs) (hb : get h 0 = some (.box cs)) (hd : get h 1 = some (.box ds))
    (h2 : okS h [(0, 0), (1, 1)] [] [(0, .box cs'), (1, .box ds')] = true)
    (h3 : rvL h [(0, 0), (1, 1)] [] cs' cs) (h3' : rvL h [(0, 0), (1, 1)] [] ds' ds) (h4 : rv h [(0, 0), (1, 1)] [] r (retOne xs)) : Fin res r [cs', ds'] [] t h := by
  have e : outs [cs', ds'] [] = [(0, .box cs'), (1, .box ds')] := rfl
  refine ⟨[(0, 0), (1, 1)], [], xs, h1, by rw [e]; exact h2, ?_, by simp only [rvN], h4⟩
  rw [e]
  simp only [rvH, get, if_true, hb, hd, and_true, rvO, if_neg (show ¬ (0 = 1) by decide)]
  exact ⟨h3, h3'⟩

theorem tm6 (a : Nat) : ((a : Nat) : Int).tmod 6 = ((a % 6 : Nat) : Int) := rfl
theorem tm7 (a : Nat) : ((a : Nat) : Int).tmod 7 = ((a % 7 : Nat) : Int) := rfl
theorem tm3 (a : Nat) : ((a : Nat) : Int).tmod 3 = ((a % 3 : Nat) : Int) := rfl
theorem tm2 (a : Nat) : ((a : Nat) : Int).tmod 2 = ((a % 2 : Nat) : Int) := rfl
theorem tm16 (a : Nat) : ((a : Nat) : Int).tmod 16 = ((a % 16 : Nat) : Int) := rfl
theorem td16 (a : Nat) : ((a : Nat) : Int).tdiv 16 = ((a / 16 : Nat) : Int) := rfl
theorem w64_add {n a : Nat} (h : n ≤ 100000) (h' : a ≤ 100000) : IntKind.i64.wrap ((a : Int) + (n : Int)) = ((a + n : Nat) : Int) := by rw [w64 (by omega)]; omega

theorem fn128 (b : List UInt8) (p : Nat) (hb : b.length ≤ 100000) : Fn Try.prog 128 [.ptr 1 0] [[bsl b, I p], [.ptr 0 0]] (I ((byteAt b p).toNat % 6 : Nat)) [[bsl b, I (stepAt b p)], [.ptr 0 0]] [] := by
  refine Fn.of_go ok128 (by simp) ?_
  unfold s128
  simp only [go_sem, reduceIte, Nat.reduceAdd, Nat.reduceMul, Nat.reduceSub, Nat.reduceEqDiff, Nat.reduceLeDiff, Nat.reduceLT, reduceCtorEq, Nat.succ_eq_add_one]
  refine goCall1 (b := 0) (fn102 b p hb) ⟨rfl, trivial⟩ rfl rfl rfl rfl ?_
  simp only [tm6, go_sem, reduceIte, Nat.reduceAdd, Nat.reduceMul, Nat.reduceSub, Nat.reduceEqDiff, Nat.reduceLeDiff, Nat.reduceLT, reduceCtorEq, Nat.succ_eq_add_one]
  refine ⟨by decide, Fin.mk2 _ rfl rfl rfl rfl (rvL_pure _ rfl) ?_ (rv_eq rfl rfl)⟩
  simp only [rv, go_sem, reduceIte, Nat.reduceAdd, Nat.reduceMul, Nat.reduceSub, Nat.reduceEqDiff, Nat.reduceLeDiff, Nat.reduceLT, reduceCtorEq, Nat.succ_eq_add_one]

/-- A call that hands over two boxes, the second with a pointer to the first. -/
theorem goCall2 {P : Program} {f : FuncId} {xs ys : List AV} {r : AV} {nm : Nat} {h : List (Nat × Ob)} {k : List It} {Q : Exit → St → Prop} {n n' : Nat} {t : List (Nat × AV)} {d : Option Nat} {l : List SOper} (b c : Nat)
    {cs cs' ds ds' : List AV} (es' : List AV) {ob oc : List AV} (hF : Fn P f xs [cs, ds] r [cs', ds'] []) (hne : b ≠ c) (ha : argsR [b, c] xs ys)
    (hb : get h b = some (.box ob)) (hc : get h c = some (.box oc)) (hp : argsR [b, c] cs ob) (hq : argsR [b, c] ds oc) (hp' : pureL cs' = true) (hq' : argsR [b, c] ds' es') (hr : r.pure = true)
    (hk : go P (.ops (nm + 8) n' l :: k) Q n (putA t d r) ((b, .box cs') :: (c, .box es') :: h)) : goCall P nm f ys d n' l k Q n t h := by
  have := hF.callD (h := h) nm [b, c] [cs', es'] ha (by simp only [boxesR, and_true, hb, hc]; exact ⟨hp, hq⟩) (by simp) (by simp [hne]) rfl (by simp only [argsLL, and_true]; exact ⟨argsR_pure cs' hp', hq'⟩) rfl (by simp) (expA_pure r hr)
  rw [sh_pure nm r hr] at this
  exact goCall_use this hk
end Go.Eng.Scr
