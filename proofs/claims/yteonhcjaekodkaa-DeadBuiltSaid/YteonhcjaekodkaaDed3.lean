/-
  Walks and plain lemmas for DeadBuilt: what the functions named below compute, over the abstract states of the engine.
  No condition beyond those that each theorem states.
-/
import Derived.Test.YteonhcjaekodkaaDed2
set_option linter.all false
set_option linter.unusedSimpArgs false
set_option maxRecDepth 20000
set_option maxHeartbeats 4000000
namespace Go.Eng
open Go Go.Proofs

def m1 : Msg := ⟨1, 0, 0, 0, 0, 0, ⟨#[]⟩⟩
def m2 : Msg := ⟨2, 0, 0, 0, 0, 0, ⟨#[]⟩⟩
theorem fn34 : Fn Try.prog 34 [] [] (Bo true) [] [] := by
  refine Fn.of_go ok34 (by simp) ?_
  unfold s34
  simp only [Int.cast_ofNat_Int, Int.reduceBEq, Int.reduceLT, Int.reduceLE, Int.reduceSub, Int.reduceAdd, Int.reduceNeg, Int.reduceEq, Int.reduceToNat, decide_true, decide_false, decide_eq_true_eq, beq_self_eq_true, bne_self_eq_false, List.reduceReplicate, List.length_set, List.length_replicate, List.length_cons, List.length_nil, List.set_cons_zero, List.set_cons_succ, Int.toNat_natCast, go_sem, reduceIte, Nat.reduceAdd, Nat.reduceMul, Nat.reduceSub, Nat.reduceEqDiff, Nat.reduceLeDiff, Nat.reduceLT, reduceCtorEq, Nat.succ_eq_add_one]
  refine goCall0 (fn26 1) rfl rfl ?_
  have e1 : newA 1 = .tup [deadA 1 [], I 0] := rfl
  simp only [e1, Int.cast_ofNat_Int, Int.reduceBEq, Int.reduceLT, Int.reduceLE, Int.reduceSub, Int.reduceAdd, Int.reduceNeg, Int.reduceEq, Int.reduceToNat, decide_true, decide_false, decide_eq_true_eq, beq_self_eq_true, bne_self_eq_false, List.reduceReplicate, List.length_set, List.length_replicate, List.length_cons, List.length_nil, List.set_cons_zero, List.set_cons_succ, Int.toNat_natCast, go_sem, reduceIte, Nat.reduceAdd, Nat.reduceMul, Nat.reduceSub, Nat.reduceEqDiff, Nat.reduceLeDiff, Nat.reduceLT, reduceCtorEq, Nat.succ_eq_add_one]
  refine goCall_fz [88] [deadA 1 [], slM [m1]] (by simp [get]) (by simp [rvL, rv, stay, get, encM, Msg.enc, m1]) ?_
  refine goCall0 (fn31 1 [] [m1] (by simp) (by simp)) rfl rfl ?_
  have e2 : dputA 1 [] [m1] = .tup [deadA 1 [m1], I 0] := rfl
  simp only [e2, Int.cast_ofNat_Int, Int.reduceBEq, Int.reduceLT, Int.reduceLE, Int.reduceSub, Int.reduceAdd, Int.reduceNeg, Int.reduceEq, Int.reduceToNat, decide_true, decide_false, decide_eq_true_eq, beq_self_eq_true, bne_self_eq_false, List.reduceReplicate, List.length_set, List.length_replicate, List.length_cons, List.length_nil, List.set_cons_zero, List.set_cons_succ, Int.toNat_natCast, go_sem, reduceIte, Nat.reduceAdd, Nat.reduceMul, Nat.reduceSub, Nat.reduceEqDiff, Nat.reduceLeDiff, Nat.reduceLT, reduceCtorEq, Nat.succ_eq_add_one]
  refine goCall_fz [160] [deadA 1 [m1], slM [m2]] (by simp [get]) (by simp [rvL, rv, stay, get, encM, Msg.enc, m2]) ?_
  refine goCall0 (fn31 1 [m1] [m2] (by simp) (by simp)) rfl rfl ?_
  have e3 : dputA 1 [m1] [m2] = .tup [deadA 0 [], I 3] := rfl
  simp only [e3, Int.cast_ofNat_Int, Int.reduceBEq, Int.reduceLT, Int.reduceLE, Int.reduceSub, Int.reduceAdd, Int.reduceNeg, Int.reduceEq, Int.reduceToNat, decide_true, decide_false, decide_eq_true_eq, beq_self_eq_true, bne_self_eq_false, List.reduceReplicate, List.length_set, List.length_replicate, List.length_cons, List.length_nil, List.set_cons_zero, List.set_cons_succ, Int.toNat_natCast, go_sem, reduceIte, Nat.reduceAdd, Nat.reduceMul, Nat.reduceSub, Nat.reduceEqDiff, Nat.reduceLeDiff, Nat.reduceLT, reduceCtorEq, Nat.succ_eq_add_one]
  refine goCall0 (fn33 1 [m1] (by simp)) rfl rfl ?_
  have e4 : roomV 1 [m1] = 0 := rfl
  simp only [e4, Int.cast_ofNat_Int, Int.reduceBEq, Int.reduceLT, Int.reduceLE, Int.reduceSub, Int.reduceAdd, Int.reduceNeg, Int.reduceEq, Int.reduceToNat, decide_true, decide_false, decide_eq_true_eq, beq_self_eq_true, bne_self_eq_false, List.reduceReplicate, List.length_set, List.length_replicate, List.length_cons, List.length_nil, List.set_cons_zero, List.set_cons_succ, Int.toNat_natCast, go_sem, reduceIte, Nat.reduceAdd, Nat.reduceMul, Nat.reduceSub, Nat.reduceEqDiff, Nat.reduceLeDiff, Nat.reduceLT, reduceCtorEq, Nat.succ_eq_add_one]
  exact Fin.eq0 _ rfl rfl rfl rfl

theorem goCallS0 {P : Program} {f : FuncId} {xs ys : List AV} {r : AV} {nm : Nat} {h : List (Nat × Ob)} {k : List It} {Q : Exit → St → Prop} {n n' : Nat} {t : List (Nat × AV)} {d : Option Nat} {l : List SOper}
    (hF : Fn P f xs [] r [] []) (ha : rvL h [] [] xs ys) (hr : r.pure = true) (hn : na r = true) (hk : go P (.ops (nm + 8) n' l :: k) Q n (putA t d r) h) : goCall P nm f ys d n' l k Q n t h :=
  goCall_use (hF.callS0 ha hr hn) (by simpa using hk)

theorem val_ok {m : Msg} (h : m.ok) : m.val = 0 := by
  obtain ⟨h1, h2, h3, h4, h5, h6, h7⟩ := h
  have : m.good = true := by
    simp only [Msg.good, btw, Bool.and_eq_true, decide_eq_true_eq]
    omega
  simp only [Msg.val, this, if_true]
  rw [if_neg (by omega)]
theorem invL_ok {ms : List Msg} (h : ∀ m ∈ ms, m.ok) : invL ms = 0 := by
  induction ms with
  | nil => rfl
  | cons m ms ih =>
    have h1 := val_ok (h m (by simp))
    simp only [invL, h1, ne_eq, not_true_eq_false, if_false]
    exact ih fun x hx => h x (by simp [hx])
/-- A store that the reader's messages fill. -/
structure Fit (c : Int) (i : Int) (ms : List Msg) : Prop where
  ok : ∀ m ∈ ms, m.ok
  nd : (ids ms).Nodup
  lt : ∀ m ∈ ms, m.id < i
  len : (ms.length : Int) ≤ c
theorem Fit.dead {c i : Int} {ms : List Msg} (h : Fit c i ms) (h1 : 1 ≤ c) (h2 : c ≤ 24) : deadV c ms = 0 := by
  have e1 := invL_ok h.ok
  have e2 : dup ms = false := by simp [dup, h.nd]
  have := h.len
  unfold deadV sndV
  rw [if_neg (by omega), if_neg (by omega), if_neg (by omega), e1, e2]
  rfl
theorem Fit.put {c i : Int} {ms : List Msg} (h : Fit c i ms) {m : Msg} (hm : m.ok) (hi : m.id = i) (hl : (ms.length : Int) < c) : Fit c (i + 1) (ms ++ [m]) := by
  refine ⟨fun x hx => ?_, ?_, fun x hx => ?_, by simp; omega⟩
  · rcases List.mem_append.1 hx with h1 | h1
    · exact h.ok x h1
    · simp at h1; subst h1; exact hm
  · simp only [ids, List.map_append, List.map_cons, List.map_nil, List.nodup_append]
    refine ⟨h.nd, by simp, fun a ha b hb => ?_⟩
    simp only [List.mem_singleton] at hb
    obtain ⟨x, hx, rfl⟩ := List.mem_map.1 ha
    have := h.lt x hx
    omega
  · rcases List.mem_append.1 hx with h1 | h1
    · have := h.lt x h1; omega
    · simp at h1; subst h1; omega
theorem Fit.step {c i : Int} {ms : List Msg} (h : Fit c i ms) : Fit c (i + 1) ms := ⟨h.ok, h.nd, fun m hm => by have := h.lt m hm; omega, h.len⟩
theorem Fit.drop {c i : Int} {ms : List Msg} (h : Fit c i ms) (n : Nat) : Fit c i (ms.drop n) := by
  refine ⟨fun m hm => h.ok m (List.mem_of_mem_drop hm), ?_, fun m hm => h.lt m (List.mem_of_mem_drop hm), ?_⟩
  · have : ids (ms.drop n) = (ids ms).drop n := by simp [ids, List.map_drop]
    rw [this]; exact h.nd.sublist (List.drop_sublist _ _)
  · have := h.len; simp; omega
theorem dup_nd {ms : List Msg} (h : (ids ms).Nodup) : dup ms = false := by simp [dup, h]

theorem put_room {c i : Int} {ms : List Msg} (h : Fit c i ms) (h1 : 1 ≤ c) (h2 : c ≤ 24) {m : Msg} (hm : m.ok) (hi : m.id = i) (hl : (ms.length : Int) < c) : dputA c ms [m] = .tup [deadA c (ms ++ [m]), I 0] := by
  have e := h.dead h1 h2
  have f := h.put hm hi hl
  unfold dputA
  have e3 : invL [m] = 0 := invL_ok fun x hx => by simp at hx; subst hx; exact hm
  rw [if_neg (by simp [e]), if_neg (by simp; omega), if_neg (by simp [e3]), dup_nd f.nd]
  rfl
theorem put_full {c i : Int} {ms : List Msg} (h : Fit c i ms) (h1 : 1 ≤ c) (h2 : c ≤ 24) (m : Msg) (hl : ¬ (ms.length : Int) < c) : dputA c ms [m] = .tup [deadA 0 [], I 3] := by
  have e := h.dead h1 h2
  unfold dputA
  rw [if_neg (by simp [e]), if_pos (by simp; omega)]

theorem tk_all {k : Int} : ∀ {ms : List Msg}, (∀ m ∈ ms, 0 ≤ m.epoch) → tk k 0 ms = (ms.take k.toNat, ms.drop k.toNat) := by
  have key : ∀ (ms : List Msg) (a b : List Msg), (∀ m ∈ ms, 0 ≤ m.epoch) → (b ≠ [] → k ≤ a.length) → ms.foldl (tkS k 0) (a, b) = (a ++ ms.take (k - a.length).toNat, b ++ ms.drop (k - a.length).toNat) := by
    intro ms
    induction ms with
    | nil => intro a b _ _; simp
    | cons m ms ih =>
      intro a b hm hb
      have h0 := hm m (by simp)
      rw [List.foldl_cons]
      by_cases h1 : (a.length : Int) < k
      · have hs : tkS k 0 (a, b) m = (a ++ [m], b) := by unfold tkS; rw [if_pos h1, if_neg (by omega)]
        have hb' : b = [] := by
          cases b with
          | nil => rfl
          | cons x y => have := hb (by simp); omega
        rw [hs, ih _ _ (fun x hx => hm x (by simp [hx])) (fun h => absurd hb' h)]
        have e : (k - a.length).toNat = (k - (a ++ [m]).length).toNat + 1 := by simp; omega
        rw [e]
        simp [hb']
      · have hs : tkS k 0 (a, b) m = (a, b ++ [m]) := by unfold tkS; rw [if_neg h1]
        rw [hs, ih _ _ (fun x hx => hm x (by simp [hx])) (fun _ => by omega)]
        have e : (k - a.length).toNat = 0 := by omega
        rw [e]
        simp
  intro ms h
  have := key ms [] [] h (by simp)
  unfold tk
  rw [this]
  simp
theorem take_fit {c i k : Int} {ms : List Msg} (h : Fit c i ms) (h1 : 1 ≤ c) (h2 : c ≤ 24) (h3 : 0 ≤ k) : takeA c ms k 0 = .tup [deadA c (ms.drop k.toNat), slM (ms.take k.toNat), I 0] := by
  have e := h.dead h1 h2
  unfold takeA validV
  rw [tk_all fun m hm => (h.ok m hm).2.2.1.1]
  simp only [e, ne_eq, not_true_eq_false, if_false]
  rw [if_neg (by omega)]
  simp
  omega
theorem room_fit {c i : Int} {ms : List Msg} (h : Fit c i ms) (h1 : 1 ≤ c) (h2 : c ≤ 24) : roomV c ms = c - ms.length := by
  unfold roomV
  simp only [h.dead h1 h2, ne_eq, not_true_eq_false, if_false]

structure OrdP (c : Int) (n : Nat) where
  i : Nat
  ms : List Msg
  off : Nat
  rows : List (List AV)
  a : Nat
  hi : 1 ≤ i ∧ i ≤ 30
  fit : Fit c i ms
  hr : (rows.drop off).take ms.length = encM ms
  hr2 : off + ms.length ≤ rows.length
  ha : a ≤ n
def ordS (l : List Int) (c : Int) (q : OrdP c l.length) : St :=
  ⟨2000, [(3, .ptr 24 0), (4, .ptr 88 0), (6, .own 1500 7 q.off q.ms.length), (7, I q.i)], [(24, .box (srcB l q.a)), (88, .box [I c, slM q.ms]), (1500, .row 44 7 q.rows)]⟩

end Go.Eng
