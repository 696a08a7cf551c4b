/-
  awake() of the base of SendPlaces gives back true, and leaves what was there.
  No condition.
-/
import Derived.Test.YthcgieflnpkgnaaGreatQtD
import Derived.Test.YthcgieflnpkgnaaGreatMemE
import Derived.KernelRfl
set_option linter.unusedVariables false
namespace Go.M
open Go Go.Proofs
instance ctT : Ctxt := ⟨fun _ => True⟩
theorem runA12 : holdsR ((clAtH hkN code levN 12).f [] (h0 []) endK) = True := by kernel_rfl
theorem calls12 (w : World) : Calls Tryz.prog 12 #[] w fun e w' => e = .returned (.bool true) ∧ Go.RowKit.Below w.heap.size w w' := by
  have h := cls_ok 12
  have hd : denL Vz [] (#[] : Array Value).toList := denL_nil.2 rfl
  generalize hc : clAtH hkN code levN 12 = c at h
  have hr := runA12
  rw [hc] at hr
  exact top h (Eq.mpr hr trivial) hd w trivial
theorem awake12 : FcOk Tryz.prog 12 fcT := fcT_ok ok12.enters calls12
noncomputable def cl12 : Nat → FC := clH (clAtH hkN code levN) 12 fcT
theorem cl12_ok : CallsOk Tryz.prog cl12 := clH_ok cls_ok awake12
noncomputable abbrev cx3 : Cx := cxF cl12 fun3
end Go.M
