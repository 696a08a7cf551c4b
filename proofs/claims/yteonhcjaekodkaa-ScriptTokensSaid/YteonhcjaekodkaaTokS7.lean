/-
  Walks and plain lemmas for ScriptTokens: what the functions named below compute, over the abstract states of the engine.
  No condition beyond those that each theorem states.
-/
import Derived.Test.YteonhcjaekodkaaTokS6
set_option linter.all false
set_option linter.unusedSimpArgs false
set_option maxRecDepth 20000
namespace Go.Eng.Scr
open Go Go.Proofs

theorem cmdL_len (b : List UInt8) (p : Nat) : (cmdL b p).length = 12 := by
  unfold cmdL; (repeat' split) <;> first | rfl | exact othC_len ..
theorem cmdL_one (b : List UInt8) (p : Nat) : oneL (cmdL b p) = true := by
  unfold cmdL; (repeat' split) <;> first | rfl | exact othC_one ..
theorem cmdL_pure (b : List UInt8) (p : Nat) : pureL (cmdL b p) = true := by
  unfold cmdL; (repeat' split) <;> first | rfl | exact othC_pure ..
theorem cmdA_pure (b : List UInt8) (p : Nat) : (AV.agg (cmdL b p)).pure = true := by simp only [AV.pure, cmdL_pure]
attribute [go_sem] cmdL_len cmdL_one cmdL_pure

def dec (b : List UInt8) : Nat → Nat → List (List AV)
  | 0, _ => []
  | f + 1, p => if p < b.length then cmdL b p :: dec b f (cmdE b p) else []
def decodeL (b : List UInt8) : List (List AV) := dec b 400 0
end Go.Eng.Scr
