/-
  awake() of the base of SettleLimit gives back true, and leaves what was there.
  No condition.
-/
import Derived.Test.YthciknbicfnhfaaGreatQt
import Derived.Test.YthciknbicfnhfaaGreatMemE
import Derived.KernelRfl
set_option linter.unusedVariables false
namespace Go.M
open Go Go.Proofs
theorem runA20 : holdsR ((clAt code levN 13).f [] (h0 []) endK) = True := by kernel_rfl
theorem calls20 (w : World) : Calls Tryz.prog 13 #[] w fun e w' => e = .returned (.bool true) ∧ Go.RowKit.Below w.heap.size w w' := by
  have h := cls_ok 13
  have hd : denL Vz [] (#[] : Array Value).toList := denL_nil.2 rfl
  generalize hc : clAt code levN 13 = c at h
  have hr := runA20
  rw [hc] at hr
  exact top h (Eq.mpr hr trivial) hd w
theorem awake20 : FcOk Tryz.prog 13 fcT := fcT_ok ok13.enters calls20
noncomputable def cl20 : Nat → FC := clH (clAt code levN) 13 fcT
theorem cl20_ok : CallsOk Tryz.prog cl20 := clH_ok cls_ok awake20
end Go.M
