/-
  What the runs of SendBatch lean on, as lists.
  The strings have at most three letters.
-/
import Derived.Test.YtfffmopgodknpaaGreatMemF
import Derived.Test.YtfffmopgodknpaaGreatMemE
import Derived.KernelRfl
set_option linter.unusedVariables false
set_option maxRecDepth 100000
namespace Go.M
open Go
noncomputable section
abbrev strX (s : ByteArray) : X := ⟨13, [], .string s⟩
abbrev sizX (s : ByteArray) : X := ⟨13, [], .int .i64 (s.size : Int)⟩
def nthB1 : List ByteArray → Nat → ByteArray
  | [], _ => ⟨#[]⟩
  | s :: _, 0 => s
  | _ :: l, k + 1 => nthB1 l k
/-- The answers: below 10 a string's length and that it is none above 16, else a string held against itself. -/
def anS (ss : List ByteArray) : List Nat → List X
  | [] => []
  | k :: l => cnd (Nat.blt k 10) (sizX (nthB1 ss k) :: ⟨1, [], oZ⟩ :: anS ss l) (⟨1, [], oZ⟩ :: anS ss l)
def fsS (ss : List ByteArray) : List Nat → List Prop → List Prop
  | [], r => r
  | k :: l, r => cnd (Nat.blt k 10) (fsS ss l (OpFact .gtr (sizX (nthB1 ss k)) ⟨512, [], oZ⟩ ⟨1, [], oZ⟩ :: LenFact (strX (nthB1 ss k)) (sizX (nthB1 ss k)) :: r)) (fsS ss l (OpFact .neq (strX (nthB1 ss (Nat.sub k 10))) (strX (nthB1 ss (Nat.sub k 10))) ⟨1, [], oZ⟩ :: r))
theorem nthB1_le {ss : List ByteArray} (h : ∀ s ∈ ss, s.size ≤ 3) : ∀ k, (nthB1 ss k).size ≤ 3 := by
  induction ss with
  | nil => intro k; show (0 : Nat) ≤ 3; omega
  | cons s l ih =>
    intro k
    cases k with
    | zero => exact h s (by simp)
    | succ k => exact ih (fun s hs => h s (by simp [hs])) k
theorem dvS [Ctxt] {s : ByteArray} : dvX (strX s) = some (.string s) := by kernel_rfl
theorem fsS_ok [Ctxt] {ss : List ByteArray} (h : ∀ s ∈ ss, s.size ≤ 3) : ∀ (l : List Nat) (r : List Prop), allP r → allP (fsS ss l r)
  | [], r, hr => hr
  | k :: l, r, hr => by
    show allP (cnd (Nat.blt k 10) _ _)
    cases Nat.blt k 10 with
    | true => exact fsS_ok h l _ ⟨f_gtrF dS (dN (m := 16) rfl) (by have := nthB1_le h k; omega), ⟨_, dvS, dS⟩, hr⟩
    | false => exact fsS_ok h l _ ⟨⟨_, _, .bool false, dvS, dvS, dvF, rfl, by simp [sbin]⟩, hr⟩
end
end Go.M
