/-
  Walks and plain lemmas for ScriptTokens: what the functions named below compute, over the abstract states of the engine.
  No condition beyond those that each theorem states.
-/
import Derived.Test.YteonhcjaekodkaaMsg3
import Derived.Test.YteonhcjaekodkaaEngE
set_option linter.all false
set_option linter.unusedSimpArgs false
set_option maxRecDepth 20000
set_option maxHeartbeats 4000000
namespace Go.Eng
open Go Go.Proofs

def pk (l : List Int) (a : Nat) (zs : List Int) : Int := zs[(nV l a zs.length).toNat]?.getD 0
theorem fn52 (l : List Int) (a : Nat) (zs : List Int) (hl : l.length ≤ 4000) (h0 : 0 < zs.length) (h1 : zs.length ≤ 100) :
    FnG Try.prog 52 [.ptr 0 0, .own 4 1 0 zs.length] [srcB l a] [.row 3 1 (encI zs)] (I (pk l a zs)) [srcB l (nN l a zs.length)] [] := by
  refine FnG.of_go ok52 (by simp) ?_
  unfold s52
  simp only [encI_len, go_sem, reduceIte, Nat.reduceAdd, Nat.reduceMul, Nat.reduceSub, Nat.reduceEqDiff, Nat.reduceLeDiff, Nat.reduceLT, reduceCtorEq, Nat.succ_eq_add_one]
  refine goCall1 (b := 0) (fn29 l a zs.length hl (by omega)) ⟨rfl, ⟨rfl, rfl⟩, trivial⟩ rfl rfl rfl rfl ?_
  have k0 := nV_lo l a zs.length
  have k3 := nV_hi l a (n := zs.length) (by omega)
  have e1 : (nV l a zs.length).toNat < zs.length := by omega
  simp only [encI_nth e1, encI_len, Nat.zero_add, go_sem, reduceIte, Nat.reduceAdd, Nat.reduceMul, Nat.reduceSub, Nat.reduceEqDiff, Nat.reduceLeDiff, Nat.reduceLT, reduceCtorEq, Nat.succ_eq_add_one]
  refine ⟨⟨by omega, by omega⟩, ⟨e1, ?_⟩⟩
  have e2 : pk l a zs = zs[(nV l a zs.length).toNat] := by unfold pk; rw [List.getElem?_eq_getElem e1]; rfl
  rw [e2]
  exact Fin.eq1 _ rfl rfl rfl rfl rfl rfl rfl

theorem kills1 (b : Nat) : kills [b] = [(b, Ob.dead)] := rfl
attribute [go_sem] kills1
def hex15 : ByteArray := ByteArray.extract ⟨#[48, 49, 50, 51, 52, 53, 54, 55, 56, 57, 97, 98, 99, 100, 101, 102]⟩ 0 15
theorem hex15_size : hex15.size = 15 := by decide
/-- A message with one change: by the number that was read. -/
def oddM (l : List Int) (m : Msg) (n : Int) (a : Nat) : Msg × Nat :=
  if n = 0 then ({ m with id := pk l a [0, 1073741824, 1073741825, -1] }, nN l a 4)
  else if n = 1 then ({ m with route := pk l a [-1, 65535, 65536] }, nN l a 3)
  else if n = 2 then ({ m with gen := pk l a [m.count, m.count - 1, 65536, 65537] }, nN l a 4)
  else if n = 3 then ({ m with count := pk l a [8, 9, -1], gen := max m.gen (pk l a [8, 9, -1]) }, nN l a 3)
  else if n = 4 then ({ m with body := hex15 ++ bdyS l a }, bdyN l a)
  else if n = 5 then ({ m with sent := pk l a [-1, 1073741824, 1073741825] }, nN l a 3)
  else if n = 6 then ({ m with epoch := pk l a [-1, 65536, 65537] }, nN l a 3)
  else (m, a)
def oddV (l : List Int) (a : Nat) (id lo hi : Int) : Msg := (oddM l (msgV l a id lo hi) (nV l (msgN l a) 12) (nN l (msgN l a) 12)).1
def oddN (l : List Int) (a : Nat) (id lo hi : Int) : Nat := (oddM l (msgV l a id lo hi) (nV l (msgN l a) 12) (nN l (msgN l a) 12)).2

theorem fn48 (l : List Int) (a : Nat) (id lo hi : Int) (hl : l.length ≤ 4000) :
    Fn Try.prog 48 [.ptr 0 0, I id, I lo, I hi] [srcB l a] (.agg (oddV l a id lo hi).enc) [srcB l (oddN l a id lo hi)] [] := by
  unfold oddV oddN
  refine Fn.of_go ok48 (by simp) ?_
  unfold s48
  simp only [go_sem, reduceIte, Nat.reduceAdd, Nat.reduceMul, Nat.reduceSub, Nat.reduceEqDiff, Nat.reduceLeDiff, Nat.reduceLT, reduceCtorEq, Nat.succ_eq_add_one]
  refine goCall1 (b := 0) (fn30 l a id lo hi hl) ⟨rfl, ⟨rfl, rfl⟩, ⟨rfl, rfl⟩, ⟨rfl, rfl⟩, trivial⟩ rfl rfl rfl rfl ?_
  have mc1 := nV_lo l (nN l a 3) 4
  have mc2 := nV_hi l (nN l a 3) (n := 4) (by omega)
  have mc : (msgV l a id lo hi).count = nV l (nN l a 3) 4 := rfl
  rw [← mc] at mc1 mc2
  generalize msgV l a id lo hi = m at mc1 mc2 ⊢
  generalize msgN l a = a1
  simp only [go_sem, reduceIte, Nat.reduceAdd, Nat.reduceMul, Nat.reduceSub, Nat.reduceEqDiff, Nat.reduceLeDiff, Nat.reduceLT, reduceCtorEq, Nat.succ_eq_add_one]
  refine goCall1 (b := 0) (fn29 l a1 12 hl (by omega)) ⟨rfl, ⟨rfl, rfl⟩, trivial⟩ rfl rfl rfl rfl ?_
  generalize nV l a1 12 = n
  generalize nN l a1 12 = a2
  unfold oddM
  by_cases n0 : n = 0
  · have b0 : (n == 0) = true := by simp [n0]
    simp only [b0, if_pos n0, Msg.enc, List.replicate, List.set, List.length, Int.cast_ofNat_Int, Int.reduceBEq, Int.reduceLT, Int.reduceLE, Int.reduceSub, Int.reduceAdd, Int.reduceNeg, Int.reduceEq, Int.reduceToNat, decide_true, decide_false, decide_eq_true_eq, beq_self_eq_true, bne_self_eq_false, List.reduceReplicate, List.length_set, List.length_replicate, List.length_cons, List.length_nil, List.set_cons_zero, List.set_cons_succ, Int.toNat_natCast, go_sem, reduceIte, Nat.reduceAdd, Nat.reduceMul, Nat.reduceSub, Nat.reduceEqDiff, Nat.reduceLeDiff, Nat.reduceLT, reduceCtorEq, Nat.succ_eq_add_one]
    refine goCallG (fn52 l a2 [0, 1073741824, 1073741825, -1] hl (by simp) (by simp)) [0] [112] (I (pk l a2 [0, 1073741824, 1073741825, -1])) [srcB l (nN l a2 4)] [] (by simp [rvL, rv, inS, get]) (by simp [boxG, rvL, rv, get]) (by simp [rowG, get, isRow, encI]) rfl (by simp [outB, rvL, rv]) (by simp [outE]) (by simp [rv]) ?_
    simp only [boxesAt, obsFrom, Int.cast_ofNat_Int, Int.reduceBEq, Int.reduceLT, Int.reduceLE, Int.reduceSub, Int.reduceAdd, Int.reduceNeg, Int.reduceEq, Int.reduceToNat, decide_true, decide_false, decide_eq_true_eq, beq_self_eq_true, bne_self_eq_false, List.reduceReplicate, List.length_set, List.length_replicate, List.length_cons, List.length_nil, List.set_cons_zero, List.set_cons_succ, Int.toNat_natCast, go_sem, reduceIte, Nat.reduceAdd, Nat.reduceMul, Nat.reduceSub, Nat.reduceEqDiff, Nat.reduceLeDiff, Nat.reduceLT, reduceCtorEq, Nat.succ_eq_add_one]
    exact Fin.eq1 _ rfl rfl rfl rfl rfl rfl rfl
  have b0 : (n == 0) = false := by simp [n0]
  by_cases n1 : n = 1
  · have b1 : (n == 1) = true := by simp [n1]
    simp only [b0, b1, if_neg n0, if_pos n1, Msg.enc, List.replicate, List.set, List.length, Int.cast_ofNat_Int, Int.reduceBEq, Int.reduceLT, Int.reduceLE, Int.reduceSub, Int.reduceAdd, Int.reduceNeg, Int.reduceEq, Int.reduceToNat, decide_true, decide_false, decide_eq_true_eq, beq_self_eq_true, bne_self_eq_false, List.reduceReplicate, List.length_set, List.length_replicate, List.length_cons, List.length_nil, List.set_cons_zero, List.set_cons_succ, Int.toNat_natCast, go_sem, reduceIte, Nat.reduceAdd, Nat.reduceMul, Nat.reduceSub, Nat.reduceEqDiff, Nat.reduceLeDiff, Nat.reduceLT, reduceCtorEq, Nat.succ_eq_add_one]
    refine goCallG (fn52 l a2 [-1, 65535, 65536] hl (by simp) (by simp)) [0] [128] (I (pk l a2 [-1, 65535, 65536])) [srcB l (nN l a2 3)] [] (by simp [rvL, rv, inS, get]) (by simp [boxG, rvL, rv, get]) (by simp [rowG, get, isRow, encI]) rfl (by simp [outB, rvL, rv]) (by simp [outE]) (by simp [rv]) ?_
    simp only [boxesAt, obsFrom, go_sem, reduceIte, Nat.reduceAdd, Nat.reduceMul, Nat.reduceSub, Nat.reduceEqDiff, Nat.reduceLeDiff, Nat.reduceLT, reduceCtorEq, Nat.succ_eq_add_one]
    exact Fin.eq1 _ rfl rfl rfl rfl rfl rfl rfl
  have b1 : (n == 1) = false := by simp [n1]
  by_cases n2 : n = 2
  · have b2 : (n == 2) = true := by simp [n2]
    have hw : IntKind.i64.wrap (m.count - 1) = m.count - 1 := w64 (by omega)
    simp only [b0, b1, b2, if_neg n0, if_neg n1, if_pos n2, hw, Msg.enc, List.replicate, List.set, List.length, Int.cast_ofNat_Int, Int.reduceBEq, Int.reduceLT, Int.reduceLE, Int.reduceSub, Int.reduceAdd, Int.reduceNeg, Int.reduceEq, Int.reduceToNat, decide_true, decide_false, decide_eq_true_eq, beq_self_eq_true, bne_self_eq_false, List.reduceReplicate, List.length_set, List.length_replicate, List.length_cons, List.length_nil, List.set_cons_zero, List.set_cons_succ, Int.toNat_natCast, go_sem, reduceIte, Nat.reduceAdd, Nat.reduceMul, Nat.reduceSub, Nat.reduceEqDiff, Nat.reduceLeDiff, Nat.reduceLT, reduceCtorEq, Nat.succ_eq_add_one]
    refine goCallG (fn52 l a2 [m.count, m.count - 1, 65536, 65537] hl (by simp) (by simp)) [0] [184] (I (pk l a2 [m.count, m.count - 1, 65536, 65537])) [srcB l (nN l a2 4)] [] (by simp [rvL, rv, inS, get]) (by simp [boxG, rvL, rv, get]) (by simp [rowG, get, isRow, encI]) rfl (by simp [outB, rvL, rv]) (by simp [outE]) (by simp [rv]) ?_
    simp only [boxesAt, obsFrom, go_sem, reduceIte, Nat.reduceAdd, Nat.reduceMul, Nat.reduceSub, Nat.reduceEqDiff, Nat.reduceLeDiff, Nat.reduceLT, reduceCtorEq, Nat.succ_eq_add_one]
    exact Fin.eq1 _ rfl rfl rfl rfl rfl rfl rfl
  have b2 : (n == 2) = false := by simp [n2]
  by_cases n3 : n = 3
  · have b3 : (n == 3) = true := by simp [n3]
    simp only [b0, b1, b2, b3, if_neg n0, if_neg n1, if_neg n2, if_pos n3, Msg.enc, List.replicate, List.set, List.length, Int.cast_ofNat_Int, Int.reduceBEq, Int.reduceLT, Int.reduceLE, Int.reduceSub, Int.reduceAdd, Int.reduceNeg, Int.reduceEq, Int.reduceToNat, decide_true, decide_false, decide_eq_true_eq, beq_self_eq_true, bne_self_eq_false, List.reduceReplicate, List.length_set, List.length_replicate, List.length_cons, List.length_nil, List.set_cons_zero, List.set_cons_succ, Int.toNat_natCast, go_sem, reduceIte, Nat.reduceAdd, Nat.reduceMul, Nat.reduceSub, Nat.reduceEqDiff, Nat.reduceLeDiff, Nat.reduceLT, reduceCtorEq, Nat.succ_eq_add_one]
    refine goCallG (fn52 l a2 [8, 9, -1] hl (by simp) (by simp)) [0] [160] (I (pk l a2 [8, 9, -1])) [srcB l (nN l a2 3)] [] (by simp [rvL, rv, inS, get]) (by simp [boxG, rvL, rv, get]) (by simp [rowG, get, isRow, encI]) rfl (by simp [outB, rvL, rv]) (by simp [outE]) (by simp [rv]) ?_
    simp only [boxesAt, obsFrom, go_sem, reduceIte, Nat.reduceAdd, Nat.reduceMul, Nat.reduceSub, Nat.reduceEqDiff, Nat.reduceLeDiff, Nat.reduceLT, reduceCtorEq, Nat.succ_eq_add_one]
    exact Fin.eq1 _ rfl rfl rfl rfl rfl rfl rfl
  have b3 : (n == 3) = false := by simp [n3]
  by_cases n4 : n = 4
  · have b4 : (n == 4) = true := by simp [n4]
    simp only [b0, b1, b2, b3, b4, if_neg n0, if_neg n1, if_neg n2, if_neg n3, if_pos n4, Msg.enc, List.replicate, List.set, List.length, Int.cast_ofNat_Int, Int.reduceBEq, Int.reduceLT, Int.reduceLE, Int.reduceSub, Int.reduceAdd, Int.reduceNeg, Int.reduceEq, Int.reduceToNat, decide_true, decide_false, decide_eq_true_eq, beq_self_eq_true, bne_self_eq_false, List.reduceReplicate, List.length_set, List.length_replicate, List.length_cons, List.length_nil, List.set_cons_zero, List.set_cons_succ, Int.toNat_natCast, go_sem, reduceIte, Nat.reduceAdd, Nat.reduceMul, Nat.reduceSub, Nat.reduceEqDiff, Nat.reduceLeDiff, Nat.reduceLT, reduceCtorEq, Nat.succ_eq_add_one]
    refine ⟨by decide, ?_⟩
    refine goCallD1 (b := 0) (fn69' l a2 hl) ⟨rfl, trivial⟩ rfl rfl rfl rfl ?_
    simp only [Int.cast_ofNat_Int, Int.reduceBEq, Int.reduceLT, Int.reduceLE, Int.reduceSub, Int.reduceAdd, Int.reduceNeg, Int.reduceEq, Int.reduceToNat, decide_true, decide_false, decide_eq_true_eq, beq_self_eq_true, bne_self_eq_false, List.reduceReplicate, List.length_set, List.length_replicate, List.length_cons, List.length_nil, List.set_cons_zero, List.set_cons_succ, Int.toNat_natCast, go_sem, reduceIte, Nat.reduceAdd, Nat.reduceMul, Nat.reduceSub, Nat.reduceEqDiff, Nat.reduceLeDiff, Nat.reduceLT, reduceCtorEq, Nat.succ_eq_add_one]
    have hb := bdyS_size l a2
    refine ⟨Nat.le_trans (show hex15.size + (bdyS l a2).size ≤ 25 by rw [hex15_size]; omega) (by decide), ?_⟩
    exact ⟨rfl, Fin.eq1 _ rfl rfl rfl rfl rfl rfl rfl⟩
  have b4 : (n == 4) = false := by simp [n4]
  by_cases n5 : n = 5
  · have b5 : (n == 5) = true := by simp [n5]
    simp only [b0, b1, b2, b3, b4, b5, if_neg n0, if_neg n1, if_neg n2, if_neg n3, if_neg n4, if_pos n5, Msg.enc, List.replicate, List.set, List.length, Int.cast_ofNat_Int, Int.reduceBEq, Int.reduceLT, Int.reduceLE, Int.reduceSub, Int.reduceAdd, Int.reduceNeg, Int.reduceEq, Int.reduceToNat, decide_true, decide_false, decide_eq_true_eq, beq_self_eq_true, bne_self_eq_false, List.reduceReplicate, List.length_set, List.length_replicate, List.length_cons, List.length_nil, List.set_cons_zero, List.set_cons_succ, Int.toNat_natCast, go_sem, reduceIte, Nat.reduceAdd, Nat.reduceMul, Nat.reduceSub, Nat.reduceEqDiff, Nat.reduceLeDiff, Nat.reduceLT, reduceCtorEq, Nat.succ_eq_add_one]
    refine goCallG (fn52 l a2 [-1, 1073741824, 1073741825] hl (by simp) (by simp)) [0] [192] (I (pk l a2 [-1, 1073741824, 1073741825])) [srcB l (nN l a2 3)] [] (by simp [rvL, rv, inS, get]) (by simp [boxG, rvL, rv, get]) (by simp [rowG, get, isRow, encI]) rfl (by simp [outB, rvL, rv]) (by simp [outE]) (by simp [rv]) ?_
    simp only [boxesAt, obsFrom, go_sem, reduceIte, Nat.reduceAdd, Nat.reduceMul, Nat.reduceSub, Nat.reduceEqDiff, Nat.reduceLeDiff, Nat.reduceLT, reduceCtorEq, Nat.succ_eq_add_one]
    exact Fin.eq1 _ rfl rfl rfl rfl rfl rfl rfl
  have b5 : (n == 5) = false := by simp [n5]
  by_cases n6 : n = 6
  · have b6 : (n == 6) = true := by simp [n6]
    simp only [b0, b1, b2, b3, b4, b5, b6, if_neg n0, if_neg n1, if_neg n2, if_neg n3, if_neg n4, if_neg n5, if_pos n6, Msg.enc, List.replicate, List.set, List.length, Int.cast_ofNat_Int, Int.reduceBEq, Int.reduceLT, Int.reduceLE, Int.reduceSub, Int.reduceAdd, Int.reduceNeg, Int.reduceEq, Int.reduceToNat, decide_true, decide_false, decide_eq_true_eq, beq_self_eq_true, bne_self_eq_false, List.reduceReplicate, List.length_set, List.length_replicate, List.length_cons, List.length_nil, List.set_cons_zero, List.set_cons_succ, Int.toNat_natCast, go_sem, reduceIte, Nat.reduceAdd, Nat.reduceMul, Nat.reduceSub, Nat.reduceEqDiff, Nat.reduceLeDiff, Nat.reduceLT, reduceCtorEq, Nat.succ_eq_add_one]
    refine goCallG (fn52 l a2 [-1, 65536, 65537] hl (by simp) (by simp)) [0] [208] (I (pk l a2 [-1, 65536, 65537])) [srcB l (nN l a2 3)] [] (by simp [rvL, rv, inS, get]) (by simp [boxG, rvL, rv, get]) (by simp [rowG, get, isRow, encI]) rfl (by simp [outB, rvL, rv]) (by simp [outE]) (by simp [rv]) ?_
    simp only [boxesAt, obsFrom, go_sem, reduceIte, Nat.reduceAdd, Nat.reduceMul, Nat.reduceSub, Nat.reduceEqDiff, Nat.reduceLeDiff, Nat.reduceLT, reduceCtorEq, Nat.succ_eq_add_one]
    exact Fin.eq1 _ rfl rfl rfl rfl rfl rfl rfl
  have b6 : (n == 6) = false := by simp [n6]
  simp only [b0, b1, b2, b3, b4, b5, b6, if_neg n0, if_neg n1, if_neg n2, if_neg n3, if_neg n4, if_neg n5, if_neg n6, Msg.enc, List.replicate, List.set, List.length, Int.cast_ofNat_Int, Int.reduceBEq, Int.reduceLT, Int.reduceLE, Int.reduceSub, Int.reduceAdd, Int.reduceNeg, Int.reduceEq, Int.reduceToNat, decide_true, decide_false, decide_eq_true_eq, beq_self_eq_true, bne_self_eq_false, List.reduceReplicate, List.length_set, List.length_replicate, List.length_cons, List.length_nil, List.set_cons_zero, List.set_cons_succ, Int.toNat_natCast, go_sem, reduceIte, Nat.reduceAdd, Nat.reduceMul, Nat.reduceSub, Nat.reduceEqDiff, Nat.reduceLeDiff, Nat.reduceLT, reduceCtorEq, Nat.succ_eq_add_one]
  exact Fin.eq1 _ rfl rfl rfl rfl rfl rfl rfl
end Go.Eng
