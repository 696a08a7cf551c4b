/-
  awake() of the base of ReceiveEnds gives back true, and leaves what was there.
  No condition.
-/
import Derived.Test.YthcgieflnpkgnaaGreatQtA
import Derived.Test.YthcgieflnpkgnaaGreatMemE
import Derived.KernelRfl
set_option linter.unusedVariables false
namespace Go.M
open Go Go.Proofs
instance ctT : Ctxt := ⟨fun _ => True⟩
theorem runA21 : holdsR ((clAtH hkN code levN 21).f [] (h0 []) endK) = True := by kernel_rfl
theorem calls21 (w : World) : Calls Tryz.prog 21 #[] w fun e w' => e = .returned (.bool true) ∧ Go.RowKit.Below w.heap.size w w' := by
  have h := cls_ok 21
  have hd : denL Vz [] (#[] : Array Value).toList := denL_nil.2 rfl
  generalize hc : clAtH hkN code levN 21 = c at h
  have hr := runA21
  rw [hc] at hr
  exact top h (Eq.mpr hr trivial) hd w trivial
theorem awake21 : FcOk Tryz.prog 21 fcT := fcT_ok ok21.enters calls21
noncomputable def cl21 : Nat → FC := clH (clAtH hkN code levN) 21 fcT
theorem cl21_ok : CallsOk Tryz.prog cl21 := clH_ok cls_ok awake21
end Go.M
