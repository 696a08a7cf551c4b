/-
  Walks and plain lemmas for ScriptTokens: what the functions named below compute, over the abstract states of the engine.
  No condition beyond those that each theorem states.
-/
import Derived.Test.YteonhcjaekodkaaEngPScriptTokens
set_option linter.all false
set_option linter.unusedSimpArgs false
namespace Go.Eng.Scr
open Go Go.Proofs

abbrev I (n : Int) : AV := .v (.int .i64 n)
abbrev B8 (x : UInt8) : AV := .v (.int .u8 x.toNat)
abbrev Bo (b : Bool) : AV := .v (.bool b)
def encB (b : List UInt8) : List (List AV) := b.map fun x => [B8 x]
theorem encB_len (b : List UInt8) : (encB b).length = b.length := by simp [encB]
theorem encB_nth {b : List UInt8} {k : Nat} (h : k < b.length) : nth (encB b) k = [B8 b[k]] := by simp [encB, nth, h]
/-- Bytes that nobody writes. -/
abbrev bsl (b : List UInt8) : AV := .sl 1 (encB b)
attribute [go_sem] encB_len

def byteAt (b : List UInt8) (p : Nat) : UInt8 := b[p]?.getD 0
def stepAt (b : List UInt8) (p : Nat) : Nat := if p < b.length then p + 1 else p

theorem fn57 (b : List UInt8) (p : Int) : Fn Try.prog 57 [.ptr 0 0] [[bsl b, I p]] (Bo (decide (p < (b.length : Int)))) [[bsl b, I p]] [] := by
  refine Fn.of_go ok57 (by simp) ?_
  unfold s57
  simp only [go_sem, reduceIte, Nat.reduceAdd, Nat.reduceMul, Nat.reduceSub, Nat.reduceEqDiff, Nat.reduceLeDiff, Nat.reduceLT, reduceCtorEq, Nat.succ_eq_add_one]
  refine ⟨rfl, ?_⟩
  exact Fin.eq1 _ rfl rfl rfl rfl rfl rfl rfl

theorem w64 {n : Int} (h : -9223372036854775808 ≤ n ∧ n ≤ 9223372036854775807) : IntKind.i64.wrap n = n := by
  rw [IntKind.wrap_i64]; omega

theorem w64_succ {p : Nat} (h : p ≤ 100000) : IntKind.i64.wrap ((p : Int) + 1) = ((p + 1 : Nat) : Int) := by rw [w64 (by omega)]; omega
theorem w64_pred {p : Nat} (h : p ≤ 100000) : IntKind.i64.wrap (((p + 1 : Nat) : Int) - 1) = (p : Int) := by rw [w64 (by omega)]; omega

theorem byteAt_in {b : List UInt8} {p : Nat} (h : p < b.length) : byteAt b p = b[p] := by simp [byteAt, h]

theorem fn103 (b : List UInt8) (p : Nat) (hb : b.length ≤ 100000) : Fn Try.prog 103 [.ptr 0 0] [[bsl b, I p]] (B8 (byteAt b p)) [[bsl b, I (stepAt b p)]] [] := by
  refine Fn.of_go ok103 (by simp) ?_
  unfold s103
  simp only [go_sem, reduceIte, Nat.reduceAdd, Nat.reduceMul, Nat.reduceSub, Nat.reduceEqDiff, Nat.reduceLeDiff, Nat.reduceLT, reduceCtorEq, Nat.succ_eq_add_one]
  refine goCall1 (b := 0) (fn57 b p) ⟨rfl, trivial⟩ rfl rfl rfl rfl ?_
  simp only [go_sem, reduceIte, Nat.reduceAdd, Nat.reduceMul, Nat.reduceSub, Nat.reduceEqDiff, Nat.reduceLeDiff, Nat.reduceLT, reduceCtorEq, Nat.succ_eq_add_one]
  refine goIf_split (fun h1 => ?_) (fun h1 => ?_) <;> simp only [h1, go_sem, reduceIte, Nat.reduceAdd, Nat.reduceMul, Nat.reduceSub, Nat.reduceEqDiff, Nat.reduceLeDiff, Nat.reduceLT, reduceCtorEq, Nat.succ_eq_add_one]
  · have h2 : ¬ p < b.length := by simpa using h1
    refine Fin.eq1 _ rfl rfl rfl rfl rfl ?_ ?_
    · rw [stepAt, if_neg h2]
    · rw [byteAt, List.getElem?_eq_none (by omega)]; rfl
  · have h2 : p < b.length := by simpa using h1
    simp only [w64_succ (show p ≤ 100000 by omega), w64_pred (show p ≤ 100000 by omega), Int.toNat_natCast, encB_nth h2, go_sem, reduceIte, Nat.reduceAdd, Nat.reduceMul, Nat.reduceSub, Nat.reduceEqDiff, Nat.reduceLeDiff, Nat.reduceLT, reduceCtorEq, Nat.succ_eq_add_one]
    refine ⟨⟨by omega, by omega⟩, rfl, Fin.eq1 _ rfl rfl rfl rfl rfl ?_ ?_⟩
    · rw [stepAt, if_pos h2]
    · rw [byteAt_in h2]; rfl

theorem u8_lt (x : UInt8) : ((x.toNat : Nat) : Int) < 256 := by have := x.toNat_lt; omega
theorem w64_u8 (x : UInt8) : IntKind.i64.wrap (x.toNat : Int) = (x.toNat : Int) := w64 (by have := x.toNat_lt; omega)

theorem fn102 (b : List UInt8) (p : Nat) (hb : b.length ≤ 100000) : Fn Try.prog 102 [.ptr 0 0] [[bsl b, I p]] (I (byteAt b p).toNat) [[bsl b, I (stepAt b p)]] [] := by
  refine Fn.of_go ok102 (by simp) ?_
  unfold s102
  simp only [go_sem, reduceIte, Nat.reduceAdd, Nat.reduceMul, Nat.reduceSub, Nat.reduceEqDiff, Nat.reduceLeDiff, Nat.reduceLT, reduceCtorEq, Nat.succ_eq_add_one]
  refine goCall1 (b := 0) (fn103 b p hb) ⟨rfl, trivial⟩ rfl rfl rfl rfl ?_
  simp only [w64_u8, go_sem, reduceIte, Nat.reduceAdd, Nat.reduceMul, Nat.reduceSub, Nat.reduceEqDiff, Nat.reduceLeDiff, Nat.reduceLT, reduceCtorEq, Nat.succ_eq_add_one]
  exact Fin.eq1 _ rfl rfl rfl rfl rfl rfl rfl

theorem fn106 (b : List UInt8) (p : Nat) (hb : b.length ≤ 100000) : Fn Try.prog 106 [.ptr 0 0] [[bsl b, I p]] (I (byteAt b p).toNat) [[bsl b, I (stepAt b p)]] [] := by
  refine Fn.of_go ok106 (by simp) ?_
  unfold s106
  simp only [go_sem, reduceIte, Nat.reduceAdd, Nat.reduceMul, Nat.reduceSub, Nat.reduceEqDiff, Nat.reduceLeDiff, Nat.reduceLT, reduceCtorEq, Nat.succ_eq_add_one]
  refine ⟨rfl, ?_⟩
  refine goIf_split (fun h1 => ?_) (fun h1 => ?_) <;> simp only [h1, go_sem, reduceIte, Nat.reduceAdd, Nat.reduceMul, Nat.reduceSub, Nat.reduceEqDiff, Nat.reduceLeDiff, Nat.reduceLT, reduceCtorEq, Nat.succ_eq_add_one]
  · have h2 : ¬ p < b.length := by simp at h1; omega
    refine Fin.eq1 _ rfl rfl rfl rfl rfl ?_ ?_
    · rw [stepAt, if_neg h2]
    · rw [byteAt, List.getElem?_eq_none (by omega)]; rfl
  · have h2 : p < b.length := by simp at h1; omega
    simp only [w64_succ (show p ≤ 100000 by omega), w64_pred (show p ≤ 100000 by omega), Int.toNat_natCast, encB_nth h2, w64_u8, go_sem, reduceIte, Nat.reduceAdd, Nat.reduceMul, Nat.reduceSub, Nat.reduceEqDiff, Nat.reduceLeDiff, Nat.reduceLT, reduceCtorEq, Nat.succ_eq_add_one]
    refine ⟨⟨by omega, by omega⟩, rfl, Fin.eq1 _ rfl rfl rfl rfl rfl ?_ ?_⟩
    · rw [stepAt, if_pos h2]
    · rw [byteAt_in h2]; rfl
end Go.Eng.Scr
