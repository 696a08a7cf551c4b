/-
  awake() of the base of SplitLeases gives back true, and leaves what was there.
  The list's numbers come in as what the oracle says of each draw.
-/
import Derived.Test.YtgnhijkjlebcmaaGreatQtS
import Derived.Test.YtgnhijkjlebcmaaGreatQLS
import Derived.Test.YtgnhijkjlebcmaaGreatMemFS
import Derived.KernelRfl
set_option linter.unusedVariables false
set_option linter.unusedSectionVars false
set_option maxRecDepth 100000
namespace Go.M
open Go Go.Proofs
section
local instance ctT : Ctxt := ⟨fun _ => True⟩
theorem runA16 : holdsR ((clAtH hkN code levN 16).f [] (h0 []) endK) = True := by kernel_rfl
theorem calls16 (w : World) : Calls Tryz.prog 16 #[] w fun e w' => e = .returned (.bool true) ∧ Go.RowKit.Below w.heap.size w w' := by
  have h := cls_ok 16
  have hd : denL Vz [] (#[] : Array Value).toList := denL_nil.2 rfl
  generalize hc : clAtH hkN code levN 16 = c at h
  have hr := runA16
  rw [hc] at hr
  exact top h (Eq.mpr hr trivial) hd w trivial
end
theorem awake16 [Ctxt] : FcOk Tryz.prog 16 fcT := fcT_ok ok16.enters calls16
noncomputable def cl16 [Lst] : Nat → FC := clH (clAtH hkL code levN) 16 fcT
theorem cl16_ok [Lst] : CallsOk Tryz.prog cl16 := clH_ok (clAtH_ok hkL_ok (fun g F h => Tb.ok tab g F h) levN) awake16
end Go.M
