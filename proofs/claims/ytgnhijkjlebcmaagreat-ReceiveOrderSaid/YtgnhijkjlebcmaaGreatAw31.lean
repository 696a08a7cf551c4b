/-
  awake() of the base of ReceiveOrder gives back true, and leaves what was there.
  The numbers are those of bytes.
-/
import Derived.Test.YtgnhijkjlebcmaaGreatQtO
import Derived.Test.YtgnhijkjlebcmaaGreatMemF
import Derived.KernelRfl
set_option linter.unusedVariables false
set_option linter.unusedSectionVars false
set_option maxRecDepth 100000
namespace Go.M
open Go Go.Proofs
instance ctT : Ctxt := ⟨fun _ => True⟩
theorem runA31 : holdsR ((clAtH hkN code levN 31).f [] (h0 []) endK) = True := by kernel_rfl
theorem calls31 (w : World) : Calls Tryz.prog 31 #[] w fun e w' => e = .returned (.bool true) ∧ Go.RowKit.Below w.heap.size w w' := by
  have h := cls_ok 31
  have hd : denL Vz [] (#[] : Array Value).toList := denL_nil.2 rfl
  generalize hc : clAtH hkN code levN 31 = c at h
  have hr := runA31
  rw [hc] at hr
  exact top h (Eq.mpr hr trivial) hd w trivial
theorem awake31 : FcOk Tryz.prog 31 fcT := fcT_ok ok31.enters calls31
noncomputable def cl31 : Nat → FC := clH (clAtH hkN code levN) 31 fcT
theorem cl31_ok : CallsOk Tryz.prog cl31 := clH_ok cls_ok awake31
noncomputable abbrev cx6 : Cx := cxF cl31 fun6
noncomputable abbrev pB : Go.Eng.SCode := (sB (sB (sR (sL (sR (sR (sR (sR fun6.sc))))))))
abbrev rr (f : Tst → R) (S : Tst) (l : List Prop) : Prop := holdsR (f S) = allP ((S.fr = S.fr) :: (S.bl = S.bl) :: l)
end Go.M
