/-
  awake() of the base of MachineFull gives back true, and leaves what was there.
  No condition.
-/
import Derived.Test.YthcgieflnpkgnaaGreatQtC
import Derived.Test.YthcgieflnpkgnaaGreatMemE
import Derived.KernelRfl
set_option linter.unusedVariables false
namespace Go.M
open Go Go.Proofs
instance ctT : Ctxt := ⟨fun _ => True⟩
theorem runA25 : holdsR ((clAtH hkN code levN 25).f [] (h0 []) endK) = True := by kernel_rfl
theorem calls25 (w : World) : Calls Tryz.prog 25 #[] w fun e w' => e = .returned (.bool true) ∧ Go.RowKit.Below w.heap.size w w' := by
  have h := cls_ok 25
  have hd : denL Vz [] (#[] : Array Value).toList := denL_nil.2 rfl
  generalize hc : clAtH hkN code levN 25 = c at h
  have hr := runA25
  rw [hc] at hr
  exact top h (Eq.mpr hr trivial) hd w trivial
theorem awake25 : FcOk Tryz.prog 25 fcT := fcT_ok ok25.enters calls25
noncomputable def cl25 : Nat → FC := clH (clAtH hkN code levN) 25 fcT
theorem cl25_ok : CallsOk Tryz.prog cl25 := clH_ok cls_ok awake25
noncomputable abbrev cx6 : Cx := cxF cl25 fun6
end Go.M
