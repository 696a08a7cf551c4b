/-
  awake() of the base of MergeMoves gives back true, and leaves what was there.
  The list's numbers come in as what the oracle says of each draw.
-/
import Derived.Test.YthhjbngoibmpgaaGreatQtm
import Derived.Test.YthhjbngoibmpgaaGreatQL
import Derived.Test.YthhjbngoibmpgaaGreatMemF
import Derived.KernelRfl
set_option linter.unusedVariables false
set_option linter.unusedSectionVars false
set_option maxRecDepth 100000
namespace Go.M
open Go Go.Proofs
section
local instance ctT : Ctxt := ⟨fun _ => True⟩
theorem runA39 : holdsR ((clAtH hkN code levN 39).f [] (h0 []) endK) = True := by kernel_rfl
theorem calls39 (w : World) : Calls Tryz.prog 39 #[] w fun e w' => e = .returned (.bool true) ∧ Go.RowKit.Below w.heap.size w w' := by
  have h := cls_ok 39
  have hd : denL Vz [] (#[] : Array Value).toList := denL_nil.2 rfl
  generalize hc : clAtH hkN code levN 39 = c at h
  have hr := runA39
  rw [hc] at hr
  exact top h (Eq.mpr hr trivial) hd w trivial
end
theorem awake39 [Ctxt] : FcOk Tryz.prog 39 fcT := fcT_ok ok39.enters calls39
noncomputable def cl39 [Lst] : Nat → FC := clH (clAtH hkL code levN) 39 fcT
theorem cl39_ok [Lst] : CallsOk Tryz.prog cl39 := clH_ok (clAtH_ok hkL_ok (fun g F h => Tb.ok tab g F h) levN) awake39
end Go.M
