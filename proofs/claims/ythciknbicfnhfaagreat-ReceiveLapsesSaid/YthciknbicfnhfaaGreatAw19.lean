/-
  awake() of the base of ReceiveLapses gives back true, and leaves what was there.
  No condition.
-/
import Derived.Test.YthciknbicfnhfaaGreatQt
import Derived.Test.YthciknbicfnhfaaGreatMemE
import Derived.KernelRfl
set_option linter.unusedVariables false
namespace Go.M
open Go Go.Proofs
theorem runA19 : holdsR ((clAt code levN 19).f [] (h0 []) endK) = True := by kernel_rfl
theorem calls19 (w : World) : Calls Tryz.prog 19 #[] w fun e w' => e = .returned (.bool true) ∧ Go.RowKit.Below w.heap.size w w' := by
  have h := cls_ok 19
  have hd : denL Vz [] (#[] : Array Value).toList := denL_nil.2 rfl
  generalize hc : clAt code levN 19 = c at h
  have hr := runA19
  rw [hc] at hr
  exact top h (Eq.mpr hr trivial) hd w
theorem awake19 : FcOk Tryz.prog 19 fcT := fcT_ok ok19.enters calls19
noncomputable def cl19 : Nat → FC := clH (clAt code levN) 19 fcT
theorem cl19_ok : CallsOk Tryz.prog cl19 := clH_ok cls_ok awake19
end Go.M
