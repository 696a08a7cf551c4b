/-
  Walks and plain lemmas for ScriptDecodes: what the functions named below compute, over the abstract states of the engine.
  No condition beyond those that each theorem states.
-/
import Derived.Test.YteonhcjaekodkaaScr12
import Derived.Test.YteonhcjaekodkaaScr15
set_option linter.all false
set_option linter.unusedSimpArgs false
set_option maxRecDepth 20000
set_option maxHeartbeats 4000000
namespace Go.Eng
open Go Go.Proofs

theorem nth_app_r {xs : List (List AV)} {x : List AV} {k : Nat} (h : k = xs.length) : nth (xs ++ [x]) k = x := by subst h; simp [nth]
theorem nth_app_l {xs ys : List (List AV)} {k : Nat} (h : k < xs.length) : nth (xs ++ ys) k = nth xs k := by simp [nth, List.getElem?_append_left h]

theorem refs_nth (b : List UInt8) (p : Nat) : ∀ (n k : Nat), k < n → ∃ q, nth (refs b p n).1 k = refC b q
  | 0, k, h => absurd h (by omega)
  | n + 1, k, h => by
    by_cases e : k = n
    · exact ⟨(refs b p n).2, nth_app_r (by rw [refs_len, e])⟩
    · obtain ⟨q, hq⟩ := refs_nth b p n k (by omega)
      exact ⟨q, by rw [← hq]; exact nth_app_l (by rw [refs_len]; omega)⟩
theorem bodies_nth (b : List UInt8) (p : Nat) : ∀ (n k : Nat), k < n → ∃ t, nth (bodies b p n) k = [.v (.string t)]
  | 0, k, h => absurd h (by omega)
  | n + 1, k, h => by
    by_cases e : k = n
    · exact ⟨_, nth_app_r (by rw [bodies_len, e])⟩
    · obtain ⟨q, hq⟩ := bodies_nth b p n k (by omega)
      exact ⟨q, by rw [← hq]; exact nth_app_l (by rw [bodies_len]; omega)⟩

theorem fn53r (b : List UInt8) (q : Nat) : Fn Try.prog 53 [rawA b q, rawA b q] [] (Bo true) [] [] := by
  unfold rawA
  split
  · exact fn53 _
  · exact fn53n

theorem fn17 (b : List UInt8) (p : Nat) : Fn Try.prog 17 [.agg (cmdL b p), .agg (cmdL b p)] [] (Bo true) [] [] := by
  have hN : ∀ (a b c d e f g i j : Nat), Fn Try.prog 17 [.agg (cmdC a b c d e f g i j Nl Nl), .agg (cmdC a b c d e f g i j Nl Nl)] [] (Bo true) [] [] := fun a b c d e f g i j => fn17n a b c d e f g i j Nl fn107n rfl rfl
  have hR : ∀ (a c d e f g i j k n q : Nat), n ≤ 3 → Fn Try.prog 17 [.agg (cmdC a c d e f g i j k Nl (.sl 3 (refs b q n).1)), .agg (cmdC a c d e f g i j k Nl (.sl 3 (refs b q n).1))] [] (Bo true) [] [] := fun a c d e f g i j k n q hn =>
    fn17r a c d e f g i j k Nl _ fn107n rfl rfl (by rw [refs_len]; omega) fun m hm => by
      obtain ⟨q', hq⟩ := refs_nth b q n m (by rw [refs_len] at hm; exact hm)
      exact ⟨_, _, _, hq, fn53r b q', rawA_pure b q'⟩
  unfold cmdL
  split
  · exact hN ..
  split
  · exact hN ..
  split
  · refine fn17n _ _ _ _ _ _ _ _ _ _ (fn107 _ (fun k hk => bodies_nth b _ _ k (by rw [bodies_len] at hk; exact hk)) (by rw [bodies_len]; omega)) rfl rfl
  split
  · exact hN ..
  split
  · exact hR _ _ _ _ _ _ _ _ _ _ _ (by omega)
  split
  · exact hR _ _ _ _ _ _ _ _ _ _ _ (by omega)
  unfold othC
  (repeat' split) <;> exact hN ..

theorem dec_nth (b : List UInt8) : ∀ (f p k : Nat), k < (dec b f p).length → ∃ q, nth (dec b f p) k = cmdL b q
  | 0, p, k, h => by simp [dec] at h
  | f + 1, p, k, h => by
    unfold dec at h ⊢
    split
    · rename_i hp
      rw [if_pos hp] at h
      cases k with
      | zero => exact ⟨p, rfl⟩
      | succ k =>
        obtain ⟨q, hq⟩ := dec_nth b f (cmdE b p) k (by simpa using h)
        exact ⟨q, by rw [← hq]; rfl⟩
    · rename_i hp
      rw [if_neg hp] at h
      simp at h
theorem dec_len (b : List UInt8) : ∀ (f p : Nat), (dec b f p).length ≤ f
  | 0, p => by simp [dec]
  | f + 1, p => by
    unfold dec
    split
    · have := dec_len b f (cmdE b p); simp; omega
    · simp
theorem decL_len (b : List UInt8) : (decodeL b).length ≤ 400 := dec_len b 400 0
theorem decL_pos (b : List UInt8) : (0 < b.length) ↔ (0 < (decodeL b).length) := by
  unfold decodeL dec
  by_cases h : 0 < b.length
  · simp [h]
  · simp [h]

theorem cmdL_take (b : List UInt8) (p : Nat) : (cmdL b p).take 12 = cmdL b p := List.take_of_length_le (by rw [cmdL_len]; omega)
theorem bneI (n : Int) : (n != n) = false := by simp
theorem bneB (n : Bool) : (n != n) = false := by simp
theorem sl_pure (sz : Nat) (xs : List (List AV)) : (AV.sl sz xs).pure = true := rfl
theorem fn3 (b : List UInt8) : Fn Try.prog 3 [bsl b] [] (Bo true) [] [] := by
  refine Fn.of_go ok3 (by simp) ?_
  unfold s3
  simp only [go_sem, reduceIte, Nat.reduceAdd, Nat.reduceMul, Nat.reduceSub, Nat.reduceEqDiff, Nat.reduceLeDiff, Nat.reduceLT, reduceCtorEq, Nat.succ_eq_add_one]
  refine goIf_split (fun h1 => ?_) (fun h1 => ?_) <;> simp only [h1, go_sem, reduceIte, Nat.reduceAdd, Nat.reduceMul, Nat.reduceSub, Nat.reduceEqDiff, Nat.reduceLeDiff, Nat.reduceLT, reduceCtorEq, Nat.succ_eq_add_one]
  · exact Fin.eq0 _ rfl rfl rfl rfl
  · have hb : b.length ≤ 2000 := by simp only [decide_eq_false_iff_not, encB_len] at h1; omega
    refine goCall0 (fn15 b (by omega)) (by simp only [pureL, sl_pure, Bool.and_self]) rfl ?_
    simp only [go_sem, reduceIte, Nat.reduceAdd, Nat.reduceMul, Nat.reduceSub, Nat.reduceEqDiff, Nat.reduceLeDiff, Nat.reduceLT, reduceCtorEq, Nat.succ_eq_add_one]
    refine goCall0 (fn16 b (by omega)) (by simp only [pureL, sl_pure, Bool.and_self]) rfl ?_
    have h2 : decide ((400 : Int) < ((decodeL b).length : Int)) = false := by have := decL_len b; simp; omega
    have h3 : decide ((0 : Int) < ((decodeL b).length : Int)) = decide ((0 : Int) < (b.length : Int)) := by
      have := decL_pos b
      simp only [decide_eq_decide]; omega
    have hl := decL_len b
    simp only [bneI, h2, h3, bneB, go_sem, reduceIte, Nat.reduceAdd, Nat.reduceMul, Nat.reduceSub, Nat.reduceEqDiff, Nat.reduceLeDiff, Nat.reduceLT, reduceCtorEq, Nat.succ_eq_add_one]
    refine go_loop (fun j : {j : Nat // j ≤ (decodeL b).length} => ⟨1000, [(3, .sl 12 (decodeL b)), (4, .sl 12 (decodeL b)), (5, I j.1)], []⟩) (fun j => (decodeL b).length - j.1) ⟨0, by omega⟩
      (Wk.mk [] [] rfl rfl (by simp only [go_sem, reduceIte, Nat.reduceAdd, Nat.reduceMul, Nat.reduceSub, Nat.reduceEqDiff, Nat.reduceLeDiff, Nat.reduceLT, reduceCtorEq, Nat.succ_eq_add_one]) (by simp only [go_sem, reduceIte, Nat.reduceAdd, Nat.reduceMul, Nat.reduceSub, Nat.reduceEqDiff, Nat.reduceLeDiff, Nat.reduceLT, reduceCtorEq, Nat.succ_eq_add_one]) (by simp only [rv, go_sem, reduceIte, Nat.reduceAdd, Nat.reduceMul, Nat.reduceSub, Nat.reduceEqDiff, Nat.reduceLeDiff, Nat.reduceLT, reduceCtorEq, Nat.succ_eq_add_one]; rfl)) ?_
    intro j B hB
    simp only [go_sem, reduceIte, Nat.reduceAdd, Nat.reduceMul, Nat.reduceSub, Nat.reduceEqDiff, Nat.reduceLeDiff, Nat.reduceLT, reduceCtorEq, Nat.succ_eq_add_one]
    refine goIf_split (fun h4 => ?_) (fun h4 => ?_) <;> simp only [h4, go_sem, reduceIte, Nat.reduceAdd, Nat.reduceMul, Nat.reduceSub, Nat.reduceEqDiff, Nat.reduceLeDiff, Nat.reduceLT, reduceCtorEq, Nat.succ_eq_add_one]
    · have e1 : j.1 < (decodeL b).length := by simp only [decide_eq_true_eq] at h4; omega
      obtain ⟨q, hq⟩ := dec_nth b 400 0 j.1 e1
      have hq' : nth (decodeL b) j.1 = cmdL b q := hq
      simp only [Int.toNat_natCast, hq', cmdL_take, w64_succ (show j.1 ≤ 100000 by omega), go_sem, reduceIte, Nat.reduceAdd, Nat.reduceMul, Nat.reduceSub, Nat.reduceEqDiff, Nat.reduceLeDiff, Nat.reduceLT, reduceCtorEq, Nat.succ_eq_add_one]
      have hq2 : 0 ≤ (j.1 : Int) ∧ (j.1 : Int) < ((decodeL b).length : Int) := ⟨by omega, by omega⟩
      refine ⟨hq2, hq2, ?_⟩
      refine goCallD0 (fn17 b q) (by simp only [pureL, cmdA_pure, Bool.and_self]) rfl ?_
      simp only [go_sem, reduceIte, Nat.reduceAdd, Nat.reduceMul, Nat.reduceSub, Nat.reduceEqDiff, Nat.reduceLeDiff, Nat.reduceLT, reduceCtorEq, Nat.succ_eq_add_one]
      refine ⟨rfl, hB _ ⟨j.1 + 1, e1⟩ (by simp only; omega) (Wk.mk [] [] rfl rfl (by simp only [go_sem, reduceIte, Nat.reduceAdd, Nat.reduceMul, Nat.reduceSub, Nat.reduceEqDiff, Nat.reduceLeDiff, Nat.reduceLT, reduceCtorEq, Nat.succ_eq_add_one]) (by simp only [go_sem, reduceIte, Nat.reduceAdd, Nat.reduceMul, Nat.reduceSub, Nat.reduceEqDiff, Nat.reduceLeDiff, Nat.reduceLT, reduceCtorEq, Nat.succ_eq_add_one]) (by simp only [rv, w64_succ (show j.1 ≤ 100000 by omega), go_sem, reduceIte, Nat.reduceAdd, Nat.reduceMul, Nat.reduceSub, Nat.reduceEqDiff, Nat.reduceLeDiff, Nat.reduceLT, reduceCtorEq, Nat.succ_eq_add_one]))⟩
    · refine goCall0 fn18 rfl rfl ?_
      simp only [go_sem, reduceIte, Nat.reduceAdd, Nat.reduceMul, Nat.reduceSub, Nat.reduceEqDiff, Nat.reduceLeDiff, Nat.reduceLT, reduceCtorEq, Nat.succ_eq_add_one]
      exact Fin.eq0 _ rfl rfl rfl rfl
end Go.Eng
