/-
  awake() of the base of SendBatch gives back true, and leaves what was there.
  No condition.
-/
import Derived.Test.YtfffmopgodknpaaGreatQtB
import Derived.Test.YtfffmopgodknpaaGreatQB
import Derived.Test.YtfffmopgodknpaaGreatMemF
import Derived.Test.YtfffmopgodknpaaGreatMemE
import Derived.KernelRfl
set_option linter.unusedVariables false
namespace Go.M
open Go Go.Proofs
section
local instance ctT : Ctxt := ⟨fun _ => True⟩
theorem runA28 : holdsR ((clAtH hkN code levN 28).f [] (h0 []) endK) = True := by kernel_rfl
theorem calls28 (w : World) : Calls Tryz.prog 28 #[] w fun e w' => e = .returned (.bool true) ∧ Go.RowKit.Below w.heap.size w w' := by
  have h := cls_ok 28
  have hd : denL Vz [] (#[] : Array Value).toList := denL_nil.2 rfl
  generalize hc : clAtH hkN code levN 28 = c at h
  have hr := runA28
  rw [hc] at hr
  exact top h (Eq.mpr hr trivial) hd w trivial
end
theorem awake28 [Ctxt] : FcOk Tryz.prog 28 fcT := fcT_ok ok28.enters calls28
noncomputable def cl28 [Lst] : Nat → FC := clH (clAtH hkB code levN) 28 fcT
theorem cl28_ok [Lst] : CallsOk Tryz.prog cl28 := clH_ok (clAtH_ok hkB_ok (fun g F h => Tb.ok tab g F h) levN) awake28
end Go.M
