/-
  Walks and plain lemmas for ScriptTokens: what the functions named below compute, over the abstract states of the engine.
  No condition beyond those that each theorem states.
-/
import Derived.Test.YteonhcjaekodkaaTokS3
set_option linter.all false
set_option linter.unusedSimpArgs false
set_option maxRecDepth 20000
namespace Go.Eng.Scr
open Go Go.Proofs

theorem w1_6 (a : Nat) : IntKind.i64.wrap (1 + ((a % 6 : Nat) : Int)) = ((1 + a % 6 : Nat) : Int) := by rw [w64 (by omega)]; omega
theorem w1_16 (a : Nat) : IntKind.i64.wrap (1 + ((a % 16 : Nat) : Int)) = ((1 + a % 16 : Nat) : Int) := by rw [w64 (by omega)]; omega
theorem w1_3 (a : Nat) : IntKind.i64.wrap (1 + ((a % 3 : Nat) : Int)) = ((1 + a % 3 : Nat) : Int) := by rw [w64 (by omega)]; omega
theorem w10_2 (a : Nat) : IntKind.i64.wrap (10 + ((a % 2 : Nat) : Int)) = ((10 + a % 2 : Nat) : Int) := by rw [w64 (by omega)]; omega
theorem w12_3 (a : Nat) : IntKind.i64.wrap (12 + ((a % 3 : Nat) : Int)) = ((12 + a % 3 : Nat) : Int) := by rw [w64 (by omega)]; omega
theorem eqn (a m : Nat) : (((a : Nat) : Int) == ((m : Nat) : Int)) = (a == m) := by
  rw [Bool.eq_iff_iff]; simp only [beq_iff_eq]; omega
attribute [go_sem] tm8 tm6 tm7 tm3 tm2 tm16 td16 w1_6 w1_16 w1_3 w10_2 w12_3

theorem rvL_eq {h : List (Nat × Ob)} {S : List (Nat × Nat)} {N : List Nat} {x y : List AV} (he : x = y) (hp : pureL y = true) : rvL h S N x y := he ▸ rvL_pure _ (he ▸ hp)

abbrev Nl : AV := .v (.slice none 0 0)
abbrev By (b : List UInt8) (p : Nat) : Nat := (byteAt b p).toNat
abbrev St1 (b : List UInt8) (p : Nat) : Nat := stepAt b p

/-- The cells of a command. -/
def cmdC (kind pick by_ op home mx vis frm to : Nat) (bodies refs : AV) : List AV :=
  [I kind, I pick, I by_, I op, I home, I mx, I vis, I frm, I to, bodies, Nl, refs]

def othC (b : List UInt8) (p k q : Nat) : List AV :=
  if k = 12 then (if q % 3 = 0 then cmdC 3 0 0 6 0 0 0 0 0 Nl Nl else if q % 3 = 1 then cmdC 3 0 0 7 0 0 0 0 0 Nl Nl
    else cmdC 3 0 0 8 (By b p % 6) (1 + By b (stepAt b p) % 6) 0 0 0 Nl Nl)
  else if k = 13 then cmdC 3 0 0 9 0 0 0 (q % 6) (By b p % 6) Nl Nl
  else if k = 14 then cmdC 3 0 0 (10 + q % 2) 0 0 0 (By b p % 6) (By b (stepAt b p) % 6) Nl Nl
  else cmdC 3 0 0 (12 + q % 3) 0 0 0 (By b p % 7) 0 Nl Nl
def othE (b : List UInt8) (p k q : Nat) : Nat :=
  if k = 12 then (if q % 3 = 0 then p else if q % 3 = 1 then p else stepAt b (stepAt b p))
  else if k = 13 then stepAt b p
  else if k = 14 then stepAt b (stepAt b p)
  else stepAt b p

theorem fn105 (b : List UInt8) (p k q : Nat) (hb : b.length ≤ 100000) : Fn Try.prog 105 [.ptr 0 0, .ptr 1 3, I k, I q] [[bsl b, I p], cmdC 3 0 0 0 0 0 0 0 0 Nl Nl] (.tup []) [[bsl b, I (othE b p k q)], othC b p k q] [] := by
  refine Fn.of_go ok105 (by simp) ?_
  unfold s105 cmdC
  simp only [go_sem, reduceIte, Nat.reduceAdd, Nat.reduceMul, Nat.reduceSub, Nat.reduceEqDiff, Nat.reduceLeDiff, Nat.reduceLT, reduceCtorEq, Nat.succ_eq_add_one]
  repeat' first
    | (refine goG_split (fun h1 => ?_) (fun h1 => ?_) <;> simp only [h1, go_sem, reduceIte, Nat.reduceAdd, Nat.reduceMul, Nat.reduceSub, Nat.reduceEqDiff, Nat.reduceLeDiff, Nat.reduceLT, reduceCtorEq, Nat.succ_eq_add_one])
    | (refine goIf_split (fun h1 => ?_) (fun h1 => ?_) <;> simp only [h1, go_sem, reduceIte, Nat.reduceAdd, Nat.reduceMul, Nat.reduceSub, Nat.reduceEqDiff, Nat.reduceLeDiff, Nat.reduceLT, reduceCtorEq, Nat.succ_eq_add_one])
    | (refine And.intro (by decide) ?_)
    | (refine goCall1 (b := 0) (fn102 b _ hb) ⟨rfl, trivial⟩ rfl rfl rfl rfl ?_; simp only [go_sem, reduceIte, Nat.reduceAdd, Nat.reduceMul, Nat.reduceSub, Nat.reduceEqDiff, Nat.reduceLeDiff, Nat.reduceLT, reduceCtorEq, Nat.succ_eq_add_one])
    | (refine goCall2 0 8 [.ptr 0 0] (fn128 b _ hb) (by decide) ⟨rfl, trivial⟩ rfl rfl (argsR_pure _ rfl) ⟨rfl, trivial⟩ rfl ⟨rfl, trivial⟩ rfl ?_; simp only [go_sem, reduceIte, Nat.reduceAdd, Nat.reduceMul, Nat.reduceSub, Nat.reduceEqDiff, Nat.reduceLeDiff, Nat.reduceLT, reduceCtorEq, Nat.succ_eq_add_one])
  all_goals (simp only [beq_iff_eq, beq_eq_false_iff_ne, ne_eq] at *)
  all_goals first
    | (exfalso; omega)
    | refine Fin.mk2 _ rfl rfl rfl rfl (rvL_eq ?_ rfl) (rvL_eq ?_ rfl) (rv_eq rfl rfl)
  all_goals (simp only [othE, othC, cmdC]; repeat' split)
  all_goals first
    | rfl
    | (exfalso; omega)
end Go.Eng.Scr
