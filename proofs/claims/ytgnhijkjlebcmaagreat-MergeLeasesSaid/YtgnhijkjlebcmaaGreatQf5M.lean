/-
  The codes of functions, as the machine takes them.
  No condition: definitions and lemmas.
-/
import Derived.Test.YtgnhijkjlebcmaaGreatQtyM
set_option linter.all false
set_option maxRecDepth 100000
set_option maxHeartbeats 4000000
namespace Go.M
open Go Go.Proofs
open Go.Eng (SOp SOper SCode sizeP aggP zerosOf bytesP zeroVal stripCode stripOps stripOper strip stripParts kindsOf kinds2)
noncomputable def s13 : SC (Tryz.f13.body.getD .skip) := SC.mk' (by simp only [Tryz.f13, go_sem]; rfl)
noncomputable def fun13 : Fun := ⟨[0, 1, 3, 6, 9, 7, 8, 5, 10, 11, 4, 12, 31, 36, 59, 64, 69, 88, 93, 105, 108, 139, 142, 152, 161, 2], [1, 6], [], 1, s13.1, [.tmp 2], 65⟩
theorem ok13 : FnM Tryz.prog 13 fun13 := SC.okM s13 rfl (fn := Tryz.f13) (by kernel_rfl) (by kernel_rfl)
noncomputable def s19 : SC (Tryz.f19.body.getD .skip) := SC.mk' (by simp only [Tryz.f19, go_sem]; rfl)
noncomputable def fun19 : Fun := ⟨[2, 1, 3, 5, 0], [1, 2], [], 0, s19.1, [.tmp 0], 1430⟩
theorem ok19 : FnM Tryz.prog 19 fun19 := SC.okM s19 rfl (fn := Tryz.f19) (by kernel_rfl) (by kernel_rfl)
noncomputable def s46 : SC (Tryz.f46.body.getD .skip) := SC.mk' (by simp only [Tryz.f46, go_sem]; rfl)
noncomputable def fun46 : Fun := ⟨[0, 1, 2, 4, 12, 6, 7, 11, 13, 3, 26, 8, 9, 10], [3, 4, 6, 7, 11, 12], [], 3, s46.1, [.cell 6 true 11, .cell 7 true 63, .tmp 8, .tmp 9, .tmp 10], 845⟩
theorem ok46 : FnM Tryz.prog 46 fun46 := SC.okM s46 rfl (fn := Tryz.f46) (by kernel_rfl) (by kernel_rfl)
noncomputable def s52 : SC (Tryz.f52.body.getD .skip) := SC.mk' (by simp only [Tryz.f52, go_sem]; rfl)
noncomputable def fun52 : Fun := ⟨[0, 1, 2, 9, 8, 19, 31, 34, 6, 7], [], [], 3, s52.1, [.tmp 6, .tmp 7], 0⟩
theorem ok52 : FnM Tryz.prog 52 fun52 := SC.okM s52 rfl (fn := Tryz.f52) (by kernel_rfl) (by kernel_rfl)
noncomputable def s64 : SC (Tryz.f64.body.getD .skip) := SC.mk' (by simp only [Tryz.f64, go_sem]; rfl)
noncomputable def fun64 : Fun := ⟨[0, 1, 2, 6, 8, 9, 16, 22, 7], [6, 8], [], 3, s64.1, [.cell 6 true 8, .tmp 7], 65⟩
theorem ok64 : FnM Tryz.prog 64 fun64 := SC.okM s64 rfl (fn := Tryz.f64) (by kernel_rfl) (by kernel_rfl)
noncomputable def s66 : SC (Tryz.f66.body.getD .skip) := SC.mk' (by simp only [Tryz.f66, go_sem]; rfl)
noncomputable def fun66 : Fun := ⟨[0, 4, 1, 10, 5, 2], [1], [], 1, s66.1, [.tmp 2], 0⟩
theorem ok66 : FnM Tryz.prog 66 fun66 := SC.okM s66 rfl (fn := Tryz.f66) (by kernel_rfl) (by kernel_rfl)
noncomputable def s76 : SC (Tryz.f76.body.getD .skip) := SC.mk' (by simp only [Tryz.f76, go_sem]; rfl)
noncomputable def fun76 : Fun := ⟨[0, 1, 4, 6, 7, 14, 22, 5], [4, 6], [], 2, s76.1, [.cell 4 true 26, .tmp 5], 65⟩
theorem ok76 : FnM Tryz.prog 76 fun76 := SC.okM s76 rfl (fn := Tryz.f76) (by kernel_rfl) (by kernel_rfl)
noncomputable def s78 : SC (Tryz.f78.body.getD .skip) := SC.mk' (by simp only [Tryz.f78, go_sem]; rfl)
noncomputable def fun78 : Fun := ⟨[0, 1, 2, 3, 8, 9, 11, 12, 13, 4, 5, 24, 10], [4, 5, 8, 9, 11, 12], [], 4, s78.1, [.cell 8 true 11, .cell 9 true 26, .tmp 10], 780⟩
theorem ok78 : FnM Tryz.prog 78 fun78 := SC.okM s78 rfl (fn := Tryz.f78) (by kernel_rfl) (by kernel_rfl)
noncomputable def s82 : SC (Tryz.f82.body.getD .skip) := SC.mk' (by simp only [Tryz.f82, go_sem]; rfl)
noncomputable def fun82 : Fun := ⟨[0, 1, 3, 7, 11, 2], [1], [], 1, s82.1, [.tmp 2], 455⟩
theorem ok82 : FnM Tryz.prog 82 fun82 := SC.okM s82 rfl (fn := Tryz.f82) (by kernel_rfl) (by kernel_rfl)
noncomputable def s110 : SC (Tryz.f110.body.getD .skip) := SC.mk' (by simp only [Tryz.f110, go_sem]; rfl)
noncomputable def fun110 : Fun := ⟨[0, 1, 2, 4, 6, 7, 13, 3, 105, 10, 30, 11, 16, 17, 22, 31, 64, 14, 15, 84, 91, 18, 101, 106, 113, 120, 8, 9], [3, 4, 6, 7, 11, 13, 17], [], 3, s110.1, [.cell 6 true 11, .cell 7 true 63, .tmp 8, .tmp 9], 910⟩
theorem ok110 : FnM Tryz.prog 110 fun110 := SC.okM s110 rfl (fn := Tryz.f110) (by kernel_rfl) (by kernel_rfl)
noncomputable def s128 : SC (Tryz.f128.body.getD .skip) := SC.mk' (by simp only [Tryz.f128, go_sem]; rfl)
noncomputable def fun128 : Fun := ⟨[0, 1, 2, 3, 7, 4, 6, 36], [3, 4, 6, 7], [], 3, s128.1, [.cell 6 true 63], 65⟩
theorem ok128 : FnM Tryz.prog 128 fun128 := SC.okM s128 rfl (fn := Tryz.f128) (by kernel_rfl) (by kernel_rfl)
noncomputable def s134 : SC (Tryz.f134.body.getD .skip) := SC.mk' (by simp only [Tryz.f134, go_sem]; rfl)
noncomputable def fun134 : Fun := ⟨[0, 1, 2, 8, 4, 5, 7, 15, 23, 9, 11, 6], [2, 4, 5], [37], 2, s134.1, [.cell 4 true 2, .cell 5 true 7, .tmp 6], 260⟩
theorem ok134 : FnM Tryz.prog 134 fun134 := SC.okM s134 rfl (fn := Tryz.f134) (by kernel_rfl) (by kernel_rfl)
noncomputable def s143 : SC (Tryz.f143.body.getD .skip) := SC.mk' (by simp only [Tryz.f143, go_sem]; rfl)
noncomputable def fun143 : Fun := ⟨[0, 2, 4, 5, 12, 3], [2, 4], [], 1, s143.1, [.cell 2 true 8, .tmp 3], 65⟩
theorem ok143 : FnM Tryz.prog 143 fun143 := SC.okM s143 rfl (fn := Tryz.f143) (by kernel_rfl) (by kernel_rfl)
noncomputable def s167 : SC (Tryz.f167.body.getD .skip) := SC.mk' (by simp only [Tryz.f167, go_sem]; rfl)
noncomputable def fun167 : Fun := ⟨[0, 1, 2, 4, 9, 5], [2, 4], [], 2, s167.1, [.cell 4 true 4, .tmp 5], 65⟩
theorem ok167 : FnM Tryz.prog 167 fun167 := SC.okM s167 rfl (fn := Tryz.f167) (by kernel_rfl) (by kernel_rfl)
noncomputable def s182 : SC (Tryz.f182.body.getD .skip) := SC.mk' (by simp only [Tryz.f182, go_sem]; rfl)
noncomputable def fun182 : Fun := ⟨[0, 3, 4, 5, 6, 28, 44, 64, 95, 2], [5], [], 1, s182.1, [.tmp 2], 130⟩
theorem ok182 : FnM Tryz.prog 182 fun182 := SC.okM s182 rfl (fn := Tryz.f182) (by kernel_rfl) (by kernel_rfl)
noncomputable def s209 : SC (Tryz.f209.body.getD .skip) := SC.mk' (by simp only [Tryz.f209, go_sem]; rfl)
noncomputable def fun209 : Fun := ⟨[0, 2], [], [], 1, s209.1, [.tmp 2], 0⟩
theorem ok209 : FnM Tryz.prog 209 fun209 := SC.okM s209 rfl (fn := Tryz.f209) (by kernel_rfl) (by kernel_rfl)
noncomputable def s215 : SC (Tryz.f215.body.getD .skip) := SC.mk' (by simp only [Tryz.f215, go_sem]; rfl)
noncomputable def fun215 : Fun := ⟨[0, 1, 4, 3, 8, 2], [1], [], 1, s215.1, [.tmp 2], 0⟩
theorem ok215 : FnM Tryz.prog 215 fun215 := SC.okM s215 rfl (fn := Tryz.f215) (by kernel_rfl) (by kernel_rfl)
noncomputable def s216 : SC (Tryz.f216.body.getD .skip) := SC.mk' (by simp only [Tryz.f216, go_sem]; rfl)
noncomputable def fun216 : Fun := ⟨[0, 1, 3, 6, 10, 12, 16, 20, 4, 5], [3], [], 2, s216.1, [.tmp 4, .tmp 5], 130⟩
theorem ok216 : FnM Tryz.prog 216 fun216 := SC.okM s216 rfl (fn := Tryz.f216) (by kernel_rfl) (by kernel_rfl)
noncomputable def s223 : SC (Tryz.f223.body.getD .skip) := SC.mk' (by simp only [Tryz.f223, go_sem]; rfl)
noncomputable def fun223 : Fun := ⟨[0, 1, 4], [], [], 2, s223.1, [.tmp 4], 130⟩
theorem ok223 : FnM Tryz.prog 223 fun223 := SC.okM s223 rfl (fn := Tryz.f223) (by kernel_rfl) (by kernel_rfl)
noncomputable def s243 : SC (Tryz.f243.body.getD .skip) := SC.mk' (by simp only [Tryz.f243, go_sem]; rfl)
noncomputable def fun243 : Fun := ⟨[0, 1, 2, 4], [2], [], 2, s243.1, [.tmp 4], 0⟩
theorem ok243 : FnM Tryz.prog 243 fun243 := SC.okM s243 rfl (fn := Tryz.f243) (by kernel_rfl) (by kernel_rfl)
noncomputable def s278 : SC (Tryz.f278.body.getD .skip) := SC.mk' (by simp only [Tryz.f278, go_sem]; rfl)
noncomputable def fun278 : Fun := ⟨[0, 1, 2, 4, 6, 11, 3, 8, 9, 13, 22, 33, 44, 48, 52, 7], [3, 4, 6], [], 3, s278.1, [.cell 6 true 4, .tmp 7], 65⟩
theorem ok278 : FnM Tryz.prog 278 fun278 := SC.okM s278 rfl (fn := Tryz.f278) (by kernel_rfl) (by kernel_rfl)
noncomputable def s280 : SC (Tryz.f280.body.getD .skip) := SC.mk' (by simp only [Tryz.f280, go_sem]; rfl)
noncomputable def fun280 : Fun := ⟨[0, 1, 2, 3, 4, 8, 7, 10, 11, 17, 23, 39, 9], [4, 7, 8], [], 4, s280.1, [.cell 8 true 11, .tmp 9], 455⟩
theorem ok280 : FnM Tryz.prog 280 fun280 := SC.okM s280 rfl (fn := Tryz.f280) (by kernel_rfl) (by kernel_rfl)
noncomputable def s287 : SC (Tryz.f287.body.getD .skip) := SC.mk' (by simp only [Tryz.f287, go_sem]; rfl)
noncomputable def fun287 : Fun := ⟨[0, 1, 2, 3, 8, 6, 17, 36, 12, 15, 10, 34, 16, 18, 30, 35, 37, 52, 7], [3, 6, 10, 12], [], 3, s287.1, [.cell 6 true 8, .tmp 7], 1040⟩
theorem ok287 : FnM Tryz.prog 287 fun287 := SC.okM s287 rfl (fn := Tryz.f287) (by kernel_rfl) (by kernel_rfl)
noncomputable def s291 : SC (Tryz.f291.body.getD .skip) := SC.mk' (by simp only [Tryz.f291, go_sem]; rfl)
noncomputable def fun291 : Fun := ⟨[0, 4, 2], [], [], 1, s291.1, [.tmp 2], 0⟩
theorem ok291 : FnM Tryz.prog 291 fun291 := SC.okM s291 rfl (fn := Tryz.f291) (by kernel_rfl) (by kernel_rfl)
noncomputable def s301 : SC (Tryz.f301.body.getD .skip) := SC.mk' (by simp only [Tryz.f301, go_sem]; rfl)
noncomputable def fun301 : Fun := ⟨[0, 1, 2, 4, 9, 5], [2, 4], [], 2, s301.1, [.cell 4 true 8, .tmp 5], 65⟩
theorem ok301 : FnM Tryz.prog 301 fun301 := SC.okM s301 rfl (fn := Tryz.f301) (by kernel_rfl) (by kernel_rfl)
noncomputable def s312 : SC (Tryz.f312.body.getD .skip) := SC.mk' (by simp only [Tryz.f312, go_sem]; rfl)
noncomputable def fun312 : Fun := ⟨[0, 4, 1, 3, 10, 2], [1], [], 1, s312.1, [.tmp 2], 0⟩
theorem ok312 : FnM Tryz.prog 312 fun312 := SC.okM s312 rfl (fn := Tryz.f312) (by kernel_rfl) (by kernel_rfl)
noncomputable def s325 : SC (Tryz.f325.body.getD .skip) := SC.mk' (by simp only [Tryz.f325, go_sem]; rfl)
noncomputable def fun325 : Fun := ⟨[0, 1, 2], [1, 2], [], 1, s325.1, [.cell 2 true 8], 65⟩
theorem ok325 : FnM Tryz.prog 325 fun325 := SC.okM s325 rfl (fn := Tryz.f325) (by kernel_rfl) (by kernel_rfl)
noncomputable def s336 : SC (Tryz.f336.body.getD .skip) := SC.mk' (by simp only [Tryz.f336, go_sem]; rfl)
noncomputable def fun336 : Fun := ⟨[0, 2], [], [], 1, s336.1, [.tmp 2], 65⟩
theorem ok336 : FnM Tryz.prog 336 fun336 := SC.okM s336 rfl (fn := Tryz.f336) (by kernel_rfl) (by kernel_rfl)
noncomputable def s354 : SC (Tryz.f354.body.getD .skip) := SC.mk' (by simp only [Tryz.f354, go_sem]; rfl)
noncomputable def fun354 : Fun := ⟨[0, 1, 3], [], [], 2, s354.1, [.tmp 3], 0⟩
theorem ok354 : FnM Tryz.prog 354 fun354 := SC.okM s354 rfl (fn := Tryz.f354) (by kernel_rfl) (by kernel_rfl)
noncomputable def s364 : SC (Tryz.f364.body.getD .skip) := SC.mk' (by simp only [Tryz.f364, go_sem]; rfl)
noncomputable def fun364 : Fun := ⟨[0, 4, 2], [], [], 1, s364.1, [.tmp 2], 0⟩
theorem ok364 : FnM Tryz.prog 364 fun364 := SC.okM s364 rfl (fn := Tryz.f364) (by kernel_rfl) (by kernel_rfl)
noncomputable def s386 : SC (Tryz.f386.body.getD .skip) := SC.mk' (by simp only [Tryz.f386, go_sem]; rfl)
noncomputable def fun386 : Fun := ⟨[0, 1, 2, 3], [2], [], 2, s386.1, [.tmp 3], 0⟩
theorem ok386 : FnM Tryz.prog 386 fun386 := SC.okM s386 rfl (fn := Tryz.f386) (by kernel_rfl) (by kernel_rfl)
noncomputable def s406 : SC (Tryz.f406.body.getD .skip) := SC.mk' (by simp only [Tryz.f406, go_sem]; rfl)
noncomputable def fun406 : Fun := ⟨[0, 1, 4], [], [8], 2, s406.1, [.tmp 4], 0⟩
theorem ok406 : FnM Tryz.prog 406 fun406 := SC.okM s406 rfl (fn := Tryz.f406) (by kernel_rfl) (by kernel_rfl)
noncomputable def s417 : SC (Tryz.f417.body.getD .skip) := SC.mk' (by simp only [Tryz.f417, go_sem]; rfl)
noncomputable def fun417 : Fun := ⟨[0, 1, 2, 7, 8, 9, 16, 22, 31, 68, 6], [], [], 3, s417.1, [.tmp 6], 0⟩
theorem ok417 : FnM Tryz.prog 417 fun417 := SC.okM s417 rfl (fn := Tryz.f417) (by kernel_rfl) (by kernel_rfl)
noncomputable def s445 : SC (Tryz.f445.body.getD .skip) := SC.mk' (by simp only [Tryz.f445, go_sem]; rfl)
noncomputable def fun445 : Fun := ⟨[0, 2], [], [], 1, s445.1, [.tmp 2], 0⟩
theorem ok445 : FnM Tryz.prog 445 fun445 := SC.okM s445 rfl (fn := Tryz.f445) (by kernel_rfl) (by kernel_rfl)
noncomputable def s446 : SC (Tryz.f446.body.getD .skip) := SC.mk' (by simp only [Tryz.f446, go_sem]; rfl)
noncomputable def fun446 : Fun := ⟨[0, 1, 8, 5, 7, 9, 16, 4], [], [], 2, s446.1, [.tmp 4], 130⟩
theorem ok446 : FnM Tryz.prog 446 fun446 := SC.okM s446 rfl (fn := Tryz.f446) (by kernel_rfl) (by kernel_rfl)
end Go.M
