/-
  Walks and plain lemmas for RingBuilt: what the functions named below compute, over the abstract states of the engine.
  No condition beyond those that each theorem states.
-/
import Derived.Test.YteonhcjaekodkaaRng1
set_option linter.all false
set_option linter.unusedSimpArgs false
set_option maxRecDepth 20000
set_option maxHeartbeats 4000000
namespace Go.Eng
open Go Go.Proofs

theorem w64_add {n a : Nat} (h : a ≤ 100000) (h' : n ≤ 100000) : IntKind.i64.wrap ((a : Int) + (n : Int)) = ((a + n : Nat) : Int) := by rw [w64 (by omega)]; omega
theorem tmN (a m : Nat) : ((a : Nat) : Int).tmod ((m : Nat) : Int) = ((a % m : Nat) : Int) := rfl
theorem w64_0 : IntKind.i64.wrap 0 = 0 := rfl
theorem nneg (n : Nat) : decide ((n : Int) < 0) = false := by simp
theorem kills_nil : kills [] = [] := rfl
theorem kills_cons (b : Nat) (Z : List Nat) : kills (b :: Z) = (b, Ob.dead) :: kills Z := rfl
attribute [go_sem] w64_0 nneg kills_nil kills_cons tmN
theorem encM_one (m : Msg) : encM [m] = [m.enc] := rfl
theorem encM_nil : encM [] = [] := rfl

/-- The end of a function that hands out one row. -/
theorem Fin.mkE1 {res : List SRes} {r : AV} {t : List (Nat × AV)} {h : List (Nat × Ob)} {e : TypeId} {sz : Nat} {xs : List (List AV)} (b : Nat) (vs : List AV) (h1 : retV t h res = some vs) (hb : get h b = some (.row e sz xs))
    (h2 : okS h [(4, b)] [] [(4, .row e sz xs)] = true) (h3 : rv h [(4, b)] [] r (retOne vs)) : Fin res r [] [.row e sz xs] t h := by
  have e : outs [] [.row e sz xs] = [(4, .row e sz xs)] := rfl
  refine ⟨[(4, b)], [], vs, h1, by rw [e]; exact h2, ?_, by simp only [rvN], h3⟩
  rw [e]
  simp only [rvH, get, if_true, hb, and_true, rvO, and_self]

theorem goCallS0 {P : Program} {f : FuncId} {xs ys : List AV} {r : AV} {nm : Nat} {h : List (Nat × Ob)} {k : List It} {Q : Exit → St → Prop} {n n' : Nat} {t : List (Nat × AV)} {d : Option Nat} {l : List SOper}
    (hF : Fn P f xs [] r [] []) (ha : rvL h [] [] xs ys) (hr : r.pure = true) (hn : na r = true) (hk : go P (.ops (nm + 8) n' l :: k) Q n (putA t d r) h) : goCall P nm f ys d n' l k Q n t h :=
  goCall_use (hF.callS0 ha hr hn) (by simpa using hk)

theorem fn78 (cs : List Msg) (h i : Nat) (s : Int) (h1 : h ≤ 10000) (h2 : i ≤ 10000) (h3 : 0 < cs.length) : Fn Try.prog 78 [ringA cs h s, I i] [] (I ((h + i) % cs.length : Nat)) [] [] := by
  refine Fn.of_go ok78 (by simp) ?_
  unfold s78
  simp only [w64_add (show h ≤ 100000 by omega) (show i ≤ 100000 by omega), go_sem, reduceIte, Nat.reduceAdd, Nat.reduceMul, Nat.reduceSub, Nat.reduceEqDiff, Nat.reduceLeDiff, Nat.reduceLT, reduceCtorEq, Nat.succ_eq_add_one]
  exact ⟨by omega, Fin.eq0 _ rfl rfl rfl rfl⟩

theorem ordL_succ (cs : List Msg) (h j : Nat) : ordL cs h (j + 1) = ordL cs h j ++ [gt cs ((h + j) % cs.length)] := by
  simp [ordL, List.range_succ]
theorem nth_gt {cs : List Msg} {k : Nat} (h : k < cs.length) : nth (encM cs) k = (gt cs k).enc := by rw [encM_nth h, gt_in h]

theorem fn63 (cs : List Msg) (h s : Nat) (h1 : h ≤ 1000) (h2 : s ≤ 1000) (h3 : 0 < cs.length) : Fn Try.prog 63 [ringA cs h s] [] (slM (ordL cs h s)) [] [] := by
  refine Fn.of_go ok63 (by simp) ?_
  unfold s63
  simp only [Int.cast_ofNat_Int, Int.reduceBEq, Int.reduceLT, Int.reduceLE, Int.reduceSub, Int.reduceAdd, Int.reduceNeg, Int.reduceEq, Int.reduceToNat, decide_true, decide_false, decide_eq_true_eq, beq_self_eq_true, bne_self_eq_false, List.reduceReplicate, List.length_set, List.length_replicate, List.length_cons, List.length_nil, List.set_cons_zero, List.set_cons_succ, Int.toNat_natCast, go_sem, reduceIte, Nat.reduceAdd, Nat.reduceMul, Nat.reduceSub, Nat.reduceEqDiff, Nat.reduceLeDiff, Nat.reduceLT, reduceCtorEq, Nat.succ_eq_add_one]
  refine go_loop (fun j : {j : Nat // j ≤ s} => ⟨2000, [(1, .ptr 8 0), (3, .own 1500 7 0 j.1), (6, I s), (7, I j.1)], [(8, .box [slM cs, I h, I s]), (1500, .row 44 7 (encM (ordL cs h j.1)))]⟩) (fun j => s - j.1) ⟨0, by omega⟩
    (Wk.mk [(8, 8)] [1500] rfl rfl (by simp only [rvH, rvO, rvL, rv, go_sem, reduceIte, Nat.reduceAdd, Nat.reduceMul, Nat.reduceSub, Nat.reduceEqDiff, Nat.reduceLeDiff, Nat.reduceLT, reduceCtorEq, Nat.succ_eq_add_one]; try simp) (by simp only [rvN, ordL, encM, List.range_zero, List.map_nil, go_sem, reduceIte, Nat.reduceAdd, Nat.reduceMul, Nat.reduceSub, Nat.reduceEqDiff, Nat.reduceLeDiff, Nat.reduceLT, reduceCtorEq, Nat.succ_eq_add_one]) (by simp only [rv, Int.cast_ofNat_Int, Int.reduceBEq, Int.reduceLT, Int.reduceLE, Int.reduceSub, Int.reduceAdd, Int.reduceNeg, Int.reduceEq, Int.reduceToNat, decide_true, decide_false, decide_eq_true_eq, beq_self_eq_true, bne_self_eq_false, List.reduceReplicate, List.length_set, List.length_replicate, List.length_cons, List.length_nil, List.set_cons_zero, List.set_cons_succ, Int.toNat_natCast, go_sem, reduceIte, Nat.reduceAdd, Nat.reduceMul, Nat.reduceSub, Nat.reduceEqDiff, Nat.reduceLeDiff, Nat.reduceLT, reduceCtorEq, Nat.succ_eq_add_one]; try simp)) ?_
  intro j B hB
  simp only [go_sem, reduceIte, Nat.reduceAdd, Nat.reduceMul, Nat.reduceSub, Nat.reduceEqDiff, Nat.reduceLeDiff, Nat.reduceLT, reduceCtorEq, Nat.succ_eq_add_one]
  refine goIf_split (fun h4 => ?_) (fun h4 => ?_) <;> simp only [h4, go_sem, reduceIte, Nat.reduceAdd, Nat.reduceMul, Nat.reduceSub, Nat.reduceEqDiff, Nat.reduceLeDiff, Nat.reduceLT, reduceCtorEq, Nat.succ_eq_add_one]
  · have e1 : j.1 < s := by simp only [decide_eq_true_eq] at h4; omega
    refine goCallD0 (fn78 cs h j.1 s (by omega) (by omega) h3) rfl rfl ?_
    have e2 : (h + j.1) % cs.length < cs.length := Nat.mod_lt _ h3
    simp only [nth_gt e2, ordL_len, encM_take, encM_len, w64_succ (show j.1 ≤ 100000 by omega), List.take_of_length_le (Nat.le_of_eq (ordL_len cs h j.1)), List.drop_zero, Int.cast_ofNat_Int, Int.reduceBEq, Int.reduceLT, Int.reduceLE, Int.reduceSub, Int.reduceAdd, Int.reduceNeg, Int.reduceEq, Int.reduceToNat, decide_true, decide_false, decide_eq_true_eq, beq_self_eq_true, bne_self_eq_false, List.reduceReplicate, List.length_set, List.length_replicate, List.length_cons, List.length_nil, List.set_cons_zero, List.set_cons_succ, Int.toNat_natCast, go_sem, reduceIte, Nat.reduceAdd, Nat.reduceMul, Nat.reduceSub, Nat.reduceEqDiff, Nat.reduceLeDiff, Nat.reduceLT, reduceCtorEq, Nat.succ_eq_add_one]
    have hm : j.1 + 1 ≤ maxLen := Nat.le_trans (show _ ≤ 2000 by omega) (by decide)
    exact ⟨⟨by omega, by omega⟩, ⟨by omega, hm, by omega⟩, rfl, hB _ ⟨j.1 + 1, e1⟩ (by simp only; omega) (Wk.mk [(8, 8), (1500, 2096)] [] rfl rfl (by simp only [rvH, rvO, rvL, rv, ordL_succ, encM_app, encM_one, go_sem, reduceIte, Nat.reduceAdd, Nat.reduceMul, Nat.reduceSub, Nat.reduceEqDiff, Nat.reduceLeDiff, Nat.reduceLT, reduceCtorEq, Nat.succ_eq_add_one]) (by simp only [go_sem, reduceIte, Nat.reduceAdd, Nat.reduceMul, Nat.reduceSub, Nat.reduceEqDiff, Nat.reduceLeDiff, Nat.reduceLT, reduceCtorEq, Nat.succ_eq_add_one]) (by simp only [rv, go_sem, reduceIte, Nat.reduceAdd, Nat.reduceMul, Nat.reduceSub, Nat.reduceEqDiff, Nat.reduceLeDiff, Nat.reduceLT, reduceCtorEq, Nat.succ_eq_add_one]))⟩
  · have e1 : j.1 = s := by have := j.2; simp only [decide_eq_false_iff_not] at h4; omega
    simp only [e1, go_sem, reduceIte, Nat.reduceAdd, Nat.reduceMul, Nat.reduceSub, Nat.reduceEqDiff, Nat.reduceLeDiff, Nat.reduceLT, reduceCtorEq, Nat.succ_eq_add_one]
    refine Fin.mk0 _ rfl rfl ?_
    simp only [retOne, rv, encM_take, encM_len, ordL_len, List.take_of_length_le (Nat.le_of_eq (ordL_len cs h s)), List.drop_zero, List.map_nil, List.not_mem_nil, not_false_eq_true, true_and, go_sem, reduceIte, Nat.reduceAdd, Nat.reduceMul, Nat.reduceSub, Nat.reduceEqDiff, Nat.reduceLeDiff, Nat.reduceLT, reduceCtorEq, Nat.succ_eq_add_one]
    simp

theorem fn81 (ms : List Msg) (h0 : 0 < ms.length) (h1 : ms.length ≤ 10000) : Fn Try.prog 81 [slM ms] [] (.own 4 7 0 ms.length) [] [.row 44 7 (encM ms)] := by
  refine Fn.of_go ok81 (by simp) ?_
  unfold s81
  obtain ⟨m, l, rfl⟩ : ∃ m l, ms = m :: l := by
    cases ms with
    | nil => simp at h0
    | cons m l => exact ⟨m, l, rfl⟩
  have e1 : encM (m :: l) = m.enc :: encM l := rfl
  have hm : l.length + 1 ≤ maxLen := Nat.le_trans (show _ ≤ 10000 by simpa using h1) (by decide)
  simp only [List.length_cons] at h1
  simp only [slM, e1, encM_len, List.take_zero, List.drop_zero, List.nil_append, List.length_nil, Int.cast_ofNat_Int, Int.reduceBEq, Int.reduceLT, Int.reduceLE, Int.reduceSub, Int.reduceAdd, Int.reduceNeg, Int.reduceEq, Int.reduceToNat, decide_true, decide_false, decide_eq_true_eq, beq_self_eq_true, bne_self_eq_false, List.reduceReplicate, List.length_set, List.length_replicate, List.length_cons, List.length_nil, List.set_cons_zero, List.set_cons_succ, Int.toNat_natCast, go_sem, reduceIte, Nat.reduceAdd, Nat.reduceMul, Nat.reduceSub, Nat.reduceEqDiff, Nat.reduceLeDiff, Nat.reduceLT, reduceCtorEq, Nat.succ_eq_add_one]
  exact ⟨⟨by omega, hm⟩, Fin.mkE1 48 _ rfl rfl rfl (by simp only [retOne, rv, get, if_true, and_self])⟩
theorem fn77 (cs : List Msg) (h s : Int) (h0 : 0 < cs.length) (h1 : cs.length ≤ 10000) : Fn Try.prog 77 [ringA cs h s] [] (.agg [.own 4 7 0 cs.length, I h, I s]) [] [.row 44 7 (encM cs)] := by
  refine Fn.of_go ok77 (by simp) ?_
  unfold s77
  simp only [Int.cast_ofNat_Int, Int.reduceBEq, Int.reduceLT, Int.reduceLE, Int.reduceSub, Int.reduceAdd, Int.reduceNeg, Int.reduceEq, Int.reduceToNat, decide_true, decide_false, decide_eq_true_eq, beq_self_eq_true, bne_self_eq_false, List.reduceReplicate, List.length_set, List.length_replicate, List.length_cons, List.length_nil, List.set_cons_zero, List.set_cons_succ, Int.toNat_natCast, go_sem, reduceIte, Nat.reduceAdd, Nat.reduceMul, Nat.reduceSub, Nat.reduceEqDiff, Nat.reduceLeDiff, Nat.reduceLT, reduceCtorEq, Nat.succ_eq_add_one]
  refine goCallE (fn81 cs h0 h1) rfl rfl (by simp) (by simp [expA]) ?_
  simp only [obsFrom, sh, Int.cast_ofNat_Int, Int.reduceBEq, Int.reduceLT, Int.reduceLE, Int.reduceSub, Int.reduceAdd, Int.reduceNeg, Int.reduceEq, Int.reduceToNat, decide_true, decide_false, decide_eq_true_eq, beq_self_eq_true, bne_self_eq_false, List.reduceReplicate, List.length_set, List.length_replicate, List.length_cons, List.length_nil, List.set_cons_zero, List.set_cons_succ, Int.toNat_natCast, go_sem, reduceIte, Nat.reduceAdd, Nat.reduceMul, Nat.reduceSub, Nat.reduceEqDiff, Nat.reduceLeDiff, Nat.reduceLT, reduceCtorEq, Nat.succ_eq_add_one]
  exact Fin.mkE1 40 _ rfl rfl rfl (by simp only [retOne, rv, rvL, get, if_true, and_self])

theorem fn111 (m : Msg) (id : Int) : Fn Try.prog 111 [.agg m.enc, .ptr 0 0] [[I id]] (Bo (m.id == id)) [[I id]] [] := by
  refine Fn.of_go ok111 (by simp) ?_
  unfold s111 Msg.enc
  simp only [Int.cast_ofNat_Int, Int.reduceBEq, Int.reduceLT, Int.reduceLE, Int.reduceSub, Int.reduceAdd, Int.reduceNeg, Int.reduceEq, Int.reduceToNat, decide_true, decide_false, decide_eq_true_eq, beq_self_eq_true, bne_self_eq_false, List.reduceReplicate, List.length_set, List.length_replicate, List.length_cons, List.length_nil, List.set_cons_zero, List.set_cons_succ, Int.toNat_natCast, go_sem, reduceIte, Nat.reduceAdd, Nat.reduceMul, Nat.reduceSub, Nat.reduceEqDiff, Nat.reduceLeDiff, Nat.reduceLT, reduceCtorEq, Nat.succ_eq_add_one]
  exact Fin.eq1 _ rfl rfl rfl rfl rfl rfl rfl
theorem goOuts (bs : List (List AV)) (gs : List Ob) : outs bs gs = obsFrom 0 (bs.map .box) ++ obsFrom 4 gs := rfl
attribute [go_sem] goOuts obsFrom
theorem fn110 (ms : List Msg) (x : Int) (hl : ms.length ≤ 10000) : FnG Try.prog 110 [slM ms, .fn 111 [.ptr 0 0]] [[I x]] [] (I (idxV ms x)) [[I x]] [] := by
  refine FnG.of_go ok110 (by simp) ?_
  unfold s110
  simp only [Int.cast_ofNat_Int, Int.reduceBEq, Int.reduceLT, Int.reduceLE, Int.reduceSub, Int.reduceAdd, Int.reduceNeg, Int.reduceEq, Int.reduceToNat, decide_true, decide_false, decide_eq_true_eq, beq_self_eq_true, bne_self_eq_false, List.reduceReplicate, List.length_set, List.length_replicate, List.length_cons, List.length_nil, List.set_cons_zero, List.set_cons_succ, Int.toNat_natCast, go_sem, reduceIte, Nat.reduceAdd, Nat.reduceMul, Nat.reduceSub, Nat.reduceEqDiff, Nat.reduceLeDiff, Nat.reduceLT, reduceCtorEq, Nat.succ_eq_add_one]
  refine go_loop (fun j : {j : Nat // j ≤ ms.length ∧ x ∉ (ids ms).take j} => ⟨1000, [(0, slM ms), (1, .fn 111 [.ptr 0 0]), (7, I ms.length), (8, I j.1)], [(0, .box [I x])]⟩) (fun j => ms.length - j.1) ⟨0, by omega, by simp⟩
    (Wk.mk [(0, 0)] [] rfl rfl (by simp only [rvH, rvO, rvL, rv, go_sem, reduceIte, Nat.reduceAdd, Nat.reduceMul, Nat.reduceSub, Nat.reduceEqDiff, Nat.reduceLeDiff, Nat.reduceLT, reduceCtorEq, Nat.succ_eq_add_one]) (by simp only [go_sem, reduceIte, Nat.reduceAdd, Nat.reduceMul, Nat.reduceSub, Nat.reduceEqDiff, Nat.reduceLeDiff, Nat.reduceLT, reduceCtorEq, Nat.succ_eq_add_one]) (by simp only [rv, rvL, Int.cast_ofNat_Int, Int.reduceBEq, Int.reduceLT, Int.reduceLE, Int.reduceSub, Int.reduceAdd, Int.reduceNeg, Int.reduceEq, Int.reduceToNat, decide_true, decide_false, decide_eq_true_eq, beq_self_eq_true, bne_self_eq_false, List.reduceReplicate, List.length_set, List.length_replicate, List.length_cons, List.length_nil, List.set_cons_zero, List.set_cons_succ, Int.toNat_natCast, go_sem, reduceIte, Nat.reduceAdd, Nat.reduceMul, Nat.reduceSub, Nat.reduceEqDiff, Nat.reduceLeDiff, Nat.reduceLT, reduceCtorEq, Nat.succ_eq_add_one]; try simp)) ?_
  intro j B hB
  simp only [go_sem, reduceIte, Nat.reduceAdd, Nat.reduceMul, Nat.reduceSub, Nat.reduceEqDiff, Nat.reduceLeDiff, Nat.reduceLT, reduceCtorEq, Nat.succ_eq_add_one]
  refine goIf_split (fun h1 => ?_) (fun h1 => ?_) <;> simp only [h1, go_sem, reduceIte, Nat.reduceAdd, Nat.reduceMul, Nat.reduceSub, Nat.reduceEqDiff, Nat.reduceLeDiff, Nat.reduceLT, reduceCtorEq, Nat.succ_eq_add_one]
  · have e1 : j.1 < ms.length := by simp only [decide_eq_true_eq] at h1; omega
    have e2 : j.1 < (ids ms).length := by rw [ids_len]; exact e1
    have e3 : (ids ms)[j.1] = ms[j.1].id := by simp [ids]
    have hq : 0 ≤ (j.1 : Int) ∧ (j.1 : Int) < (ms.length : Int) := ⟨by omega, by omega⟩
    simp only [Int.toNat_natCast, encM_nth e1, go_sem, reduceIte, Nat.reduceAdd, Nat.reduceMul, Nat.reduceSub, Nat.reduceEqDiff, Nat.reduceLeDiff, Nat.reduceLT, reduceCtorEq, Nat.succ_eq_add_one]
    refine ⟨hq, ?_⟩
    refine goCall1 (b := 0) (fn111 _ x) ⟨⟨rfl, rfl⟩, rfl, trivial⟩ rfl rfl rfl rfl ?_
    simp only [go_sem, reduceIte, Nat.reduceAdd, Nat.reduceMul, Nat.reduceSub, Nat.reduceEqDiff, Nat.reduceLeDiff, Nat.reduceLT, reduceCtorEq, Nat.succ_eq_add_one]
    refine goIf_split (fun h2 => ?_) (fun h2 => ?_) <;> simp only [h2, go_sem, reduceIte, Nat.reduceAdd, Nat.reduceMul, Nat.reduceSub, Nat.reduceEqDiff, Nat.reduceLeDiff, Nat.reduceLT, reduceCtorEq, Nat.succ_eq_add_one]
    · have e4 := idx_at e2 j.2.2 (e3.trans (by simpa using h2))
      refine Fin.eq1 _ rfl rfl rfl rfl rfl rfl ?_
      simp only [retOne, idxV, e4.1, e4.2, if_true]
    · have e4 : ms[j.1].id ≠ x := by simpa using h2
      simp only [w64_succ (show j.1 ≤ 100000 by omega), go_sem, reduceIte, Nat.reduceAdd, Nat.reduceMul, Nat.reduceSub, Nat.reduceEqDiff, Nat.reduceLeDiff, Nat.reduceLT, reduceCtorEq, Nat.succ_eq_add_one]
      refine hB _ ⟨j.1 + 1, e1, ?_⟩ (by simp only; omega) (Wk.mk [(0, 0)] [] rfl rfl (by simp only [rvH, rvO, rvL, rv, go_sem, reduceIte, Nat.reduceAdd, Nat.reduceMul, Nat.reduceSub, Nat.reduceEqDiff, Nat.reduceLeDiff, Nat.reduceLT, reduceCtorEq, Nat.succ_eq_add_one]) (by simp only [go_sem, reduceIte, Nat.reduceAdd, Nat.reduceMul, Nat.reduceSub, Nat.reduceEqDiff, Nat.reduceLeDiff, Nat.reduceLT, reduceCtorEq, Nat.succ_eq_add_one]) (by simp only [rv, rvL, go_sem, reduceIte, Nat.reduceAdd, Nat.reduceMul, Nat.reduceSub, Nat.reduceEqDiff, Nat.reduceLeDiff, Nat.reduceLT, reduceCtorEq, Nat.succ_eq_add_one]; try simp))
      rw [List.take_succ_eq_append_getElem e2, e3]
      simp only [List.mem_append, List.mem_singleton, not_or]
      exact ⟨j.2.2, fun h => e4 h.symm⟩
  · have e1 : j.1 = ms.length := by have := j.2.1; simp only [decide_eq_false_iff_not] at h1; omega
    have e2 := j.2.2
    rw [e1, List.take_of_length_le (by rw [ids_len]; omega)] at e2
    refine Fin.eq1 _ rfl rfl rfl rfl rfl rfl ?_
    simp only [retOne, idxV, e2, if_false]

theorem fn64 (cs : List Msg) (h s : Nat) (x : Int) (h1 : h ≤ 1000) (h2 : s ≤ 1000) (h3 : 0 < cs.length) : Fn Try.prog 64 [ringA cs h s, I x] [] (I (idxV (ordL cs h s) x)) [] [] := by
  refine Fn.of_go ok64 (by simp) ?_
  unfold s64
  simp only [Int.cast_ofNat_Int, Int.reduceBEq, Int.reduceLT, Int.reduceLE, Int.reduceSub, Int.reduceAdd, Int.reduceNeg, Int.reduceEq, Int.reduceToNat, decide_true, decide_false, decide_eq_true_eq, beq_self_eq_true, bne_self_eq_false, List.reduceReplicate, List.length_set, List.length_replicate, List.length_cons, List.length_nil, List.set_cons_zero, List.set_cons_succ, Int.toNat_natCast, go_sem, reduceIte, Nat.reduceAdd, Nat.reduceMul, Nat.reduceSub, Nat.reduceEqDiff, Nat.reduceLeDiff, Nat.reduceLT, reduceCtorEq, Nat.succ_eq_add_one]
  refine goCall0 (fn63 cs h s h1 h2 h3) rfl rfl ?_
  simp only [Int.cast_ofNat_Int, Int.reduceBEq, Int.reduceLT, Int.reduceLE, Int.reduceSub, Int.reduceAdd, Int.reduceNeg, Int.reduceEq, Int.reduceToNat, decide_true, decide_false, decide_eq_true_eq, beq_self_eq_true, bne_self_eq_false, List.reduceReplicate, List.length_set, List.length_replicate, List.length_cons, List.length_nil, List.set_cons_zero, List.set_cons_succ, Int.toNat_natCast, go_sem, reduceIte, Nat.reduceAdd, Nat.reduceMul, Nat.reduceSub, Nat.reduceEqDiff, Nat.reduceLeDiff, Nat.reduceLT, reduceCtorEq, Nat.succ_eq_add_one]
  refine goCallG (fn110 (ordL cs h s) x (by rw [ordL_len]; omega)) [16] [] (I (idxV (ordL cs h s) x)) [[I x]] [] (by simp [rvL, rv, inS, get]) (by simp [boxG, rvL, rv, get]) (by simp [rowG]) rfl (by simp [outB, rvL, rv]) (by simp [outE]) (by simp [rv]) ?_
  simp only [Int.cast_ofNat_Int, Int.reduceBEq, Int.reduceLT, Int.reduceLE, Int.reduceSub, Int.reduceAdd, Int.reduceNeg, Int.reduceEq, Int.reduceToNat, decide_true, decide_false, decide_eq_true_eq, beq_self_eq_true, bne_self_eq_false, List.reduceReplicate, List.length_set, List.length_replicate, List.length_cons, List.length_nil, List.set_cons_zero, List.set_cons_succ, Int.toNat_natCast, go_sem, reduceIte, Nat.reduceAdd, Nat.reduceMul, Nat.reduceSub, Nat.reduceEqDiff, Nat.reduceLeDiff, Nat.reduceLT, reduceCtorEq, Nat.succ_eq_add_one]
  exact Fin.eq0 _ rfl rfl rfl rfl
end Go.Eng
