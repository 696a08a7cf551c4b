/-
  Part of a proof: lemmas and definitions of this work.
  No condition.
-/
import Derived.Test.YthhjbngoibmpgaaGreatH08
import Derived.Test.YthhjbngoibmpgaaGreatH22
set_option linter.all false
set_option maxRecDepth 100000
set_option maxHeartbeats 8000000
namespace Go.Eng
open Go Go.Proofs
attribute [local go_sem] ai.enc ah.enc Task.enc Ev.enc bL.enc aC.enc dx.enc Dead.enc Dir.enc aj.enc Walk.enc bI.enc aG.enc eB.enc Setup.enc aY qN oW List.length_map
theorem Jd {l:List aj} {i:Nat} (h:i<l.length):nth (l.map aj.enc) i=aj.enc (bV l i):=fJ aj.enc aj.z h
end Go.Eng
