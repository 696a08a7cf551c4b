/-
  Walks and plain lemmas for SectionCarries: what the functions named below compute, over the abstract states of the engine.
  No condition beyond those that each theorem states.
-/
import Derived.Test.YtjkgjdgmghnknaaGreatBq3
set_option linter.all false
set_option linter.unusedSimpArgs false
set_option maxRecDepth 20000
set_option maxHeartbeats 4000000
namespace Go.Eng
open Go Go.Proofs

structure Msg where
  id : Int
  route : Int
  epoch : Int
  count : Int
  gen : Int
  sent : Int
  body : ByteArray
def Msg.enc (m : Msg) : List AV := [I m.id, I m.route, I m.epoch, I m.count, I m.gen, I m.sent, .v (.string m.body)]

def bdyS (l : List Int) (a : Nat) : ByteArray := bodyS l (nN l a 4) (nV l a 4).toNat
def bdyN (l : List Int) (a : Nat) : Nat := bodyA l (nN l a 4) (nV l a 4).toNat
theorem bdyN_le {l : List Int} {a : Nat} (h : a ≤ l.length) : bdyN l a ≤ l.length := bodyA_le (nN_le h) _
theorem bdyS_size (l : List Int) (a : Nat) : (bdyS l a).size ≤ 3 := by
  have h0 := nV_lo l a 4
  have h1 := nV_hi l a (n := 4) (by omega)
  unfold bdyS; rw [bodyS_size]; omega

def msgV (l : List Int) (a : Nat) (id lo hi : Int) : Msg :=
  let a1 := nN l a 3; let a2 := nN l a1 4; let a3 := nN l a2 50; let a4 := bdyN l a3; let a5 := nN l a4 3
  ⟨id, intoV (routeV id) lo hi, nV l a 3, nV l a1 4, if nV l a5 20 = 19 then 65536 else nV l a1 4 + nV l a4 3, nV l a2 50, bdyS l a3⟩
def msgN (l : List Int) (a : Nat) : Nat := nN l (nN l (bdyN l (nN l (nN l (nN l a 3) 4) 50)) 3) 20
theorem msgN_le {l : List Int} {a : Nat} (h : a ≤ l.length) : msgN l a ≤ l.length := nN_le (nN_le (bdyN_le (nN_le (nN_le (nN_le h)))))

theorem fn35' (l : List Int) (a : Nat) (hl : l.length ≤ 4000) : Fn Tryz.prog 35 [.ptr 0 0] [srcB l a] (.v (.string (bdyS l a))) [srcB l (bdyN l a)] [] := fn35 l a hl

theorem fn18 (l : List Int) (a : Nat) (id lo hi : Int) (hl : l.length ≤ 4000) :
    Fn Tryz.prog 18 [.ptr 0 0, I id, I lo, I hi] [srcB l a] (.agg (msgV l a id lo hi).enc) [srcB l (msgN l a)] [] := by
  refine Fn.of_go ok18 (by simp) ?_
  unfold s18
  simp only [go_sem, reduceIte, Nat.reduceAdd, Nat.reduceMul, Nat.reduceSub, Nat.reduceEqDiff, Nat.reduceLeDiff, Nat.reduceLT, reduceCtorEq, Nat.succ_eq_add_one]
  refine goCall0 (fn33 id) rfl rfl ?_
  simp only [go_sem, reduceIte, Nat.reduceAdd, Nat.reduceMul, Nat.reduceSub, Nat.reduceEqDiff, Nat.reduceLeDiff, Nat.reduceLT, reduceCtorEq, Nat.succ_eq_add_one]
  refine goCall0 (fn56 (routeV id) lo hi) rfl rfl ?_
  simp only [go_sem, reduceIte, Nat.reduceAdd, Nat.reduceMul, Nat.reduceSub, Nat.reduceEqDiff, Nat.reduceLeDiff, Nat.reduceLT, reduceCtorEq, Nat.succ_eq_add_one]
  refine goCall1 (b := 0) (fn19 l a 3 hl (by omega)) ⟨rfl, ⟨rfl, rfl⟩, trivial⟩ rfl rfl rfl rfl ?_
  simp only [go_sem, reduceIte, Nat.reduceAdd, Nat.reduceMul, Nat.reduceSub, Nat.reduceEqDiff, Nat.reduceLeDiff, Nat.reduceLT, reduceCtorEq, Nat.succ_eq_add_one]
  refine goCall1 (b := 0) (fn19 l _ 4 hl (by omega)) ⟨rfl, ⟨rfl, rfl⟩, trivial⟩ rfl rfl rfl rfl ?_
  simp only [go_sem, reduceIte, Nat.reduceAdd, Nat.reduceMul, Nat.reduceSub, Nat.reduceEqDiff, Nat.reduceLeDiff, Nat.reduceLT, reduceCtorEq, Nat.succ_eq_add_one]
  refine goCall1 (b := 0) (fn19 l _ 50 hl (by omega)) ⟨rfl, ⟨rfl, rfl⟩, trivial⟩ rfl rfl rfl rfl ?_
  simp only [go_sem, reduceIte, Nat.reduceAdd, Nat.reduceMul, Nat.reduceSub, Nat.reduceEqDiff, Nat.reduceLeDiff, Nat.reduceLT, reduceCtorEq, Nat.succ_eq_add_one]
  refine goCall1 (b := 0) (fn35' l _ hl) ⟨rfl, trivial⟩ rfl rfl rfl rfl ?_
  simp only [go_sem, reduceIte, Nat.reduceAdd, Nat.reduceMul, Nat.reduceSub, Nat.reduceEqDiff, Nat.reduceLeDiff, Nat.reduceLT, reduceCtorEq, Nat.succ_eq_add_one]
  refine goCallD1 (b := 0) (fn19 l _ 3 hl (by omega)) ⟨rfl, ⟨rfl, rfl⟩, trivial⟩ rfl rfl rfl rfl ?_
  simp only [go_sem, reduceIte, Nat.reduceAdd, Nat.reduceMul, Nat.reduceSub, Nat.reduceEqDiff, Nat.reduceLeDiff, Nat.reduceLT, reduceCtorEq, Nat.succ_eq_add_one]
  refine ⟨rfl, ?_⟩
  refine goCall1 (b := 0) (fn19 l _ 20 hl (by omega)) ⟨rfl, ⟨rfl, rfl⟩, trivial⟩ rfl rfl rfl rfl ?_
  simp only [go_sem, reduceIte, Nat.reduceAdd, Nat.reduceMul, Nat.reduceSub, Nat.reduceEqDiff, Nat.reduceLeDiff, Nat.reduceLT, reduceCtorEq, Nat.succ_eq_add_one]
  have h1 := nV_lo l (nN l a 3) 4
  have h2 := nV_hi l (nN l a 3) (n := 4) (by omega)
  have h3 := nV_lo l (bdyN l (nN l (nN l (nN l a 3) 4) 50)) 3
  have h4 := nV_hi l (bdyN l (nN l (nN l (nN l a 3) 4) 50)) (n := 3) (by omega)
  have h5 := w64 (n := nV l (nN l a 3) 4 + nV l (bdyN l (nN l (nN l (nN l a 3) 4) 50)) 3) (by omega)
  refine goIf_split (fun h6 => ?_) (fun h6 => ?_)
  · simp only [h6, h5, go_sem, reduceIte, Nat.reduceAdd, Nat.reduceMul, Nat.reduceSub, Nat.reduceEqDiff, Nat.reduceLeDiff, Nat.reduceLT, reduceCtorEq, Nat.succ_eq_add_one]
    refine Fin.eq1 _ rfl rfl rfl rfl rfl rfl ?_
    have e : nV l (nN l (bdyN l (nN l (nN l (nN l a 3) 4) 50)) 3) 20 = 19 := by simpa using h6
    simp only [retOne, msgV, Msg.enc, e, if_true]
  · simp only [h6, h5, go_sem, reduceIte, Nat.reduceAdd, Nat.reduceMul, Nat.reduceSub, Nat.reduceEqDiff, Nat.reduceLeDiff, Nat.reduceLT, reduceCtorEq, Nat.succ_eq_add_one]
    refine Fin.eq1 _ rfl rfl rfl rfl rfl rfl ?_
    have e : ¬ nV l (nN l (bdyN l (nN l (nN l (nN l a 3) 4) 50)) 3) 20 = 19 := by simpa using h6
    simp only [retOne, msgV, Msg.enc, e, if_false]

/-- A message that may be stored. -/
def Msg.ok (m : Msg) : Prop := (1 ≤ m.id ∧ m.id ≤ 1073741824) ∧ (0 ≤ m.route ∧ m.route ≤ 65535) ∧ (0 ≤ m.epoch ∧ m.epoch ≤ 1000) ∧ (0 ≤ m.count ∧ m.count ≤ 3) ∧ (m.count ≤ m.gen ∧ m.gen ≤ 65536) ∧ (0 ≤ m.sent ∧ m.sent ≤ 1000) ∧ m.body.size ≤ 3
theorem msgV_ok (l : List Int) (a : Nat) {id lo hi : Int} (h0 : 1 ≤ id) (h1 : id ≤ 1073741824) (h2 : 0 ≤ lo) (h3 : lo ≤ hi) (h4 : hi < 65536) : (msgV l a id lo hi).ok := by
  have i := intoV_in (routeV id) h2 h3 h4
  have e1 := nV_lo l a 3
  have e2 := nV_hi l a (n := 3) (by omega)
  have c1 := nV_lo l (nN l a 3) 4
  have c2 := nV_hi l (nN l a 3) (n := 4) (by omega)
  have g1 := nV_lo l (bdyN l (nN l (nN l (nN l a 3) 4) 50)) 3
  have g2 := nV_hi l (bdyN l (nN l (nN l (nN l a 3) 4) 50)) (n := 3) (by omega)
  have s9001 := nV_lo l (nN l (nN l a 3) 4) 50
  have s9002 := nV_hi l (nN l (nN l a 3) 4) (n := 50) (by omega)
  refine ⟨⟨h0, h1⟩, ⟨i.2.2, ?_⟩, ⟨e1, ?_⟩, ⟨c1, ?_⟩, ⟨?_, ?_⟩, ⟨s9001, ?_⟩, bdyS_size _ _⟩ <;> simp only [msgV]
  · omega
  · omega
  · omega
  · split <;> omega
  · split <;> omega
  · omega
end Go.Eng
