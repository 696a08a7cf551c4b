/-
  awake() of the base of MergeLeases gives back true, and leaves what was there.
  The list's numbers come in as what the oracle says of each draw.
-/
import Derived.Test.YtgnhijkjlebcmaaGreatQtM
import Derived.Test.YtgnhijkjlebcmaaGreatQLM
import Derived.Test.YtgnhijkjlebcmaaGreatMemFM
import Derived.KernelRfl
set_option linter.unusedVariables false
set_option linter.unusedSectionVars false
set_option maxRecDepth 100000
namespace Go.M
open Go Go.Proofs
section
local instance ctT : Ctxt := ⟨fun _ => True⟩
theorem runA19 : holdsR ((clAtH hkN code levN 19).f [] (h0 []) endK) = True := by kernel_rfl
theorem calls19 (w : World) : Calls Tryz.prog 19 #[] w fun e w' => e = .returned (.bool true) ∧ Go.RowKit.Below w.heap.size w w' := by
  have h := cls_ok 19
  have hd : denL Vz [] (#[] : Array Value).toList := denL_nil.2 rfl
  generalize hc : clAtH hkN code levN 19 = c at h
  have hr := runA19
  rw [hc] at hr
  exact top h (Eq.mpr hr trivial) hd w trivial
end
theorem awake19 [Ctxt] : FcOk Tryz.prog 19 fcT := fcT_ok ok19.enters calls19
noncomputable def cl19 [Lst] : Nat → FC := clH (clAtH hkL code levN) 19 fcT
theorem cl19_ok [Lst] : CallsOk Tryz.prog cl19 := clH_ok (clAtH_ok hkL_ok (fun g F h => Tb.ok tab g F h) levN) awake19
end Go.M
