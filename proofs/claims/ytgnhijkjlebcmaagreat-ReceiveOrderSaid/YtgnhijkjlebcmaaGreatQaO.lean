/-
  The atomic cell: what its functions do.
  No condition: definitions and lemmas.
-/
import Derived.Test.YtgnhijkjlebcmaaGreatMemF
import Derived.Test.YtgnhijkjlebcmaaGreatProg
import Derived.WalkKit
import Derived.Laws.LoneSync
import Derived.RegionCalls
set_option linter.all false
set_option maxRecDepth 100000
set_option maxHeartbeats 4000000
namespace Go.M
open Go Go.Proofs
noncomputable section
def hkN (f : Nat) : FC := fcN
theorem hk_ok [Ctxt] : CallsOk Tryz.prog hkN := fun g => fcN_ok
end
end Go.M
