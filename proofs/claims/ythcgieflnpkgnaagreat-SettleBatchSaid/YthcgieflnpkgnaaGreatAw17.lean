/-
  awake() of the base of SettleBatch gives back true, and leaves what was there.
  No condition.
-/
import Derived.Test.YthcgieflnpkgnaaGreatQtB
import Derived.Test.YthcgieflnpkgnaaGreatMemE
import Derived.KernelRfl
set_option linter.unusedVariables false
namespace Go.M
open Go Go.Proofs
instance ctT : Ctxt := ⟨fun _ => True⟩
theorem runA17 : holdsR ((clAtH hkN code levN 17).f [] (h0 []) endK) = True := by kernel_rfl
theorem calls17 (w : World) : Calls Tryz.prog 17 #[] w fun e w' => e = .returned (.bool true) ∧ Go.RowKit.Below w.heap.size w w' := by
  have h := cls_ok 17
  have hd : denL Vz [] (#[] : Array Value).toList := denL_nil.2 rfl
  generalize hc : clAtH hkN code levN 17 = c at h
  have hr := runA17
  rw [hc] at hr
  exact top h (Eq.mpr hr trivial) hd w trivial
theorem awake17 : FcOk Tryz.prog 17 fcT := fcT_ok ok17.enters calls17
noncomputable def cl17 : Nat → FC := clH (clAtH hkN code levN) 17 fcT
theorem cl17_ok : CallsOk Tryz.prog cl17 := clH_ok cls_ok awake17
noncomputable abbrev cx4 : Cx := cxF cl17 fun4
end Go.M
