/-
  Walks and plain lemmas for ScriptTokens: what the functions named below compute, over the abstract states of the engine.
  No condition beyond those that each theorem states.
-/
import Derived.Test.YteonhcjaekodkaaTokS9
set_option linter.all false
set_option linter.unusedSimpArgs false
set_option maxRecDepth 20000
set_option maxHeartbeats 4000000
namespace Go.Eng.Scr
open Go Go.Proofs

abbrev awk : List UInt8 := [7, 0, 0, 12]
theorem dec_awk : decodeL awk = [cmdL awk 0, cmdL awk 2] := by rfl
theorem cmd_awk0 : cmdL awk 0 = cmdC 3 0 0 1 0 0 0 0 0 (.sl 1 [[.v (.string ⟨#[97]⟩)]]) Nl := by rfl
theorem cmd_awk2 : cmdL awk 2 = cmdC 1 0 13 0 0 0 0 0 0 Nl Nl := by rfl
end Go.Eng.Scr
