/-
  The codes of functions, as the machine takes them.
  No condition: definitions and lemmas.
-/
import Derived.Test.YthcgieflnpkgnaaGreatQtyA
set_option linter.all false
set_option maxRecDepth 100000
set_option maxHeartbeats 4000000
namespace Go.M
open Go Go.Proofs
open Go.Eng (SOp SOper SCode sizeP aggP zerosOf bytesP zeroVal stripCode stripOps stripOper strip stripParts kindsOf)

noncomputable def s13 : SC (Tryz.f13.body.getD .skip) := SC.mk' (by simp only [Tryz.f13, go_sem]; rfl)
noncomputable def fun13 : Fun := ⟨[0, 1, 2, 6], [6], [], 3, s13.1, [.cell 6 true 8], 0⟩
theorem ok13 : FnM Tryz.prog 13 fun13 := SC.okM s13 rfl (fn := Tryz.f13) (by kernel_rfl) (by kernel_rfl)
noncomputable def s20 : SC (Tryz.f20.body.getD .skip) := SC.mk' (by simp only [Tryz.f20, go_sem]; rfl)
noncomputable def fun20 : Fun := ⟨[0, 1, 2, 3, 4], [2, 3], [], 2, s20.1, [.tmp 4], 2⟩
theorem ok20 : FnM Tryz.prog 20 fun20 := SC.okM s20 rfl (fn := Tryz.f20) (by kernel_rfl) (by kernel_rfl)
noncomputable def s26 : SC (Tryz.f26.body.getD .skip) := SC.mk' (by simp only [Tryz.f26, go_sem]; rfl)
noncomputable def fun26 : Fun := ⟨[0, 1, 2, 6], [], [], 3, s26.1, [.tmp 6], 0⟩
theorem ok26 : FnM Tryz.prog 26 fun26 := SC.okM s26 rfl (fn := Tryz.f26) (by kernel_rfl) (by kernel_rfl)
noncomputable def s28 : SC (Tryz.f28.body.getD .skip) := SC.mk' (by simp only [Tryz.f28, go_sem]; rfl)
noncomputable def fun28 : Fun := ⟨[0, 2, 4, 5, 12, 3], [2, 4], [], 1, s28.1, [.cell 2 true 8, .tmp 3], 1⟩
theorem ok28 : FnM Tryz.prog 28 fun28 := SC.okM s28 rfl (fn := Tryz.f28) (by kernel_rfl) (by kernel_rfl)
noncomputable def s34 : SC (Tryz.f34.body.getD .skip) := SC.mk' (by simp only [Tryz.f34, go_sem]; rfl)
noncomputable def fun34 : Fun := ⟨[0, 1, 3, 7, 11, 2], [1], [], 1, s34.1, [.tmp 2], 7⟩
theorem ok34 : FnM Tryz.prog 34 fun34 := SC.okM s34 rfl (fn := Tryz.f34) (by kernel_rfl) (by kernel_rfl)
noncomputable def s39 : SC (Tryz.f39.body.getD .skip) := SC.mk' (by simp only [Tryz.f39, go_sem]; rfl)
noncomputable def fun39 : Fun := ⟨[0, 1, 6, 8, 2, 5, 7, 9, 10, 21, 32, 45, 3, 4], [1, 2, 9], [], 1, s39.1, [.cell 2 true 23, .tmp 3, .tmp 4], 17⟩
theorem ok39 : FnM Tryz.prog 39 fun39 := SC.okM s39 rfl (fn := Tryz.f39) (by kernel_rfl) (by kernel_rfl)
noncomputable def s45 : SC (Tryz.f45.body.getD .skip) := SC.mk' (by simp only [Tryz.f45, go_sem]; rfl)
noncomputable def fun45 : Fun := ⟨[0, 1, 2, 3, 4], [2, 3], [], 2, s45.1, [.tmp 4], 1⟩
theorem ok45 : FnM Tryz.prog 45 fun45 := SC.okM s45 rfl (fn := Tryz.f45) (by kernel_rfl) (by kernel_rfl)
noncomputable def s78 : SC (Tryz.f78.body.getD .skip) := SC.mk' (by simp only [Tryz.f78, go_sem]; rfl)
noncomputable def fun78 : Fun := ⟨[0, 1, 3, 6, 2], [1], [], 1, s78.1, [.tmp 2], 0⟩
theorem ok78 : FnM Tryz.prog 78 fun78 := SC.okM s78 rfl (fn := Tryz.f78) (by kernel_rfl) (by kernel_rfl)
noncomputable def s79 : SC (Tryz.f79.body.getD .skip) := SC.mk' (by simp only [Tryz.f79, go_sem]; rfl)
noncomputable def fun79 : Fun := ⟨[0, 1, 3, 4, 6, 8, 2, 21, 42, 5], [2, 3, 4, 6], [], 2, s79.1, [.cell 4 true 63, .tmp 5], 6⟩
theorem ok79 : FnM Tryz.prog 79 fun79 := SC.okM s79 rfl (fn := Tryz.f79) (by kernel_rfl) (by kernel_rfl)
noncomputable def s89 : SC (Tryz.f89.body.getD .skip) := SC.mk' (by simp only [Tryz.f89, go_sem]; rfl)
noncomputable def fun89 : Fun := ⟨[0, 1, 2, 4, 6, 9, 16, 5], [2, 4], [], 2, s89.1, [.cell 4 true 3, .tmp 5], 5⟩
theorem ok89 : FnM Tryz.prog 89 fun89 := SC.okM s89 rfl (fn := Tryz.f89) (by kernel_rfl) (by kernel_rfl)
noncomputable def s113 : SC (Tryz.f113.body.getD .skip) := SC.mk' (by simp only [Tryz.f113, go_sem]; rfl)
noncomputable def fun113 : Fun := ⟨[0, 1, 2, 19, 4, 6, 7, 3, 40, 112, 11, 20, 30, 52, 62, 72, 82, 92, 102, 123, 8, 9], [3, 4, 6, 7], [], 3, s113.1, [.cell 6 true 11, .cell 7 true 63, .tmp 8, .tmp 9], 15⟩
theorem ok113 : FnM Tryz.prog 113 fun113 := SC.okM s113 rfl (fn := Tryz.f113) (by kernel_rfl) (by kernel_rfl)
noncomputable def s140 : SC (Tryz.f140.body.getD .skip) := SC.mk' (by simp only [Tryz.f140, go_sem]; rfl)
noncomputable def fun140 : Fun := ⟨[0, 3, 4, 5, 35, 2], [], [], 1, s140.1, [.tmp 2], 12⟩
theorem ok140 : FnM Tryz.prog 140 fun140 := SC.okM s140 rfl (fn := Tryz.f140) (by kernel_rfl) (by kernel_rfl)
noncomputable def s142 : SC (Tryz.f142.body.getD .skip) := SC.mk' (by simp only [Tryz.f142, go_sem]; rfl)
noncomputable def fun142 : Fun := ⟨[0, 1, 2, 3, 6, 35, 7], [3, 6], [], 3, s142.1, [.cell 6 true 2, .tmp 7], 0⟩
theorem ok142 : FnM Tryz.prog 142 fun142 := SC.okM s142 rfl (fn := Tryz.f142) (by kernel_rfl) (by kernel_rfl)
noncomputable def s165 : SC (Tryz.f165.body.getD .skip) := SC.mk' (by simp only [Tryz.f165, go_sem]; rfl)
noncomputable def fun165 : Fun := ⟨[0, 1, 4, 44, 6, 28, 43, 45, 2, 3], [1, 6], [], 1, s165.1, [.tmp 2, .tmp 3], 2⟩
theorem ok165 : FnM Tryz.prog 165 fun165 := SC.okM s165 rfl (fn := Tryz.f165) (by kernel_rfl) (by kernel_rfl)
noncomputable def s201 : SC (Tryz.f201.body.getD .skip) := SC.mk' (by simp only [Tryz.f201, go_sem]; rfl)
noncomputable def fun201 : Fun := ⟨[0, 1, 8, 56, 3, 4, 5, 6, 54, 13, 19, 23, 36, 37, 44, 55, 57, 67, 79, 2], [1, 8], [], 1, s201.1, [.tmp 2], 6⟩
theorem ok201 : FnM Tryz.prog 201 fun201 := SC.okM s201 rfl (fn := Tryz.f201) (by kernel_rfl) (by kernel_rfl)
noncomputable def s210 : SC (Tryz.f210.body.getD .skip) := SC.mk' (by simp only [Tryz.f210, go_sem]; rfl)
noncomputable def fun210 : Fun := ⟨[0, 1, 2, 6, 7, 11, 15, 4, 5], [2], [], 2, s210.1, [.tmp 4, .tmp 5], 0⟩
theorem ok210 : FnM Tryz.prog 210 fun210 := SC.okM s210 rfl (fn := Tryz.f210) (by kernel_rfl) (by kernel_rfl)
noncomputable def s242 : SC (Tryz.f242.body.getD .skip) := SC.mk' (by simp only [Tryz.f242, go_sem]; rfl)
noncomputable def fun242 : Fun := ⟨[0, 1, 5, 2, 9, 12, 4], [2], [], 2, s242.1, [.tmp 4], 8⟩
theorem ok242 : FnM Tryz.prog 242 fun242 := SC.okM s242 rfl (fn := Tryz.f242) (by kernel_rfl) (by kernel_rfl)
noncomputable def s291 : SC (Tryz.f291.body.getD .skip) := SC.mk' (by simp only [Tryz.f291, go_sem]; rfl)
noncomputable def fun291 : Fun := ⟨[0, 1, 2, 4, 9, 5], [2, 4], [], 2, s291.1, [.cell 4 true 8, .tmp 5], 1⟩
theorem ok291 : FnM Tryz.prog 291 fun291 := SC.okM s291 rfl (fn := Tryz.f291) (by kernel_rfl) (by kernel_rfl)
noncomputable def s317 : SC (Tryz.f317.body.getD .skip) := SC.mk' (by simp only [Tryz.f317, go_sem]; rfl)
noncomputable def fun317 : Fun := ⟨[0, 1, 5, 2, 10, 20, 4], [2], [], 2, s317.1, [.tmp 4], 0⟩
theorem ok317 : FnM Tryz.prog 317 fun317 := SC.okM s317 rfl (fn := Tryz.f317) (by kernel_rfl) (by kernel_rfl)
noncomputable def s389 : SC (Tryz.f389.body.getD .skip) := SC.mk' (by simp only [Tryz.f389, go_sem]; rfl)
noncomputable def fun389 : Fun := ⟨[0, 1, 2, 4, 3, 6, 7, 10, 21, 9, 38, 42, 53, 55, 8], [3, 4, 6, 7], [], 3, s389.1, [.cell 6 true 11, .cell 7 true 5, .tmp 8], 3⟩
theorem ok389 : FnM Tryz.prog 389 fun389 := SC.okM s389 rfl (fn := Tryz.f389) (by kernel_rfl) (by kernel_rfl)
noncomputable def s393 : SC (Tryz.f393.body.getD .skip) := SC.mk' (by simp only [Tryz.f393, go_sem]; rfl)
noncomputable def fun393 : Fun := ⟨[0, 2], [], [], 1, s393.1, [.tmp 2], 0⟩
theorem ok393 : FnM Tryz.prog 393 fun393 := SC.okM s393 rfl (fn := Tryz.f393) (by kernel_rfl) (by kernel_rfl)
noncomputable def s394 : SC (Tryz.f394.body.getD .skip) := SC.mk' (by simp only [Tryz.f394, go_sem]; rfl)
noncomputable def fun394 : Fun := ⟨[0, 1, 2, 3, 7, 17, 6], [3], [], 3, s394.1, [.tmp 6], 2⟩
theorem ok394 : FnM Tryz.prog 394 fun394 := SC.okM s394 rfl (fn := Tryz.f394) (by kernel_rfl) (by kernel_rfl)
noncomputable def s396 : SC (Tryz.f396.body.getD .skip) := SC.mk' (by simp only [Tryz.f396, go_sem]; rfl)
noncomputable def fun396 : Fun := ⟨[0, 2], [], [], 1, s396.1, [.tmp 2], 1⟩
theorem ok396 : FnM Tryz.prog 396 fun396 := SC.okM s396 rfl (fn := Tryz.f396) (by kernel_rfl) (by kernel_rfl)
noncomputable def s398 : SC (Tryz.f398.body.getD .skip) := SC.mk' (by simp only [Tryz.f398, go_sem]; rfl)
noncomputable def fun398 : Fun := ⟨[0, 4, 2], [], [], 1, s398.1, [.tmp 2], 0⟩
theorem ok398 : FnM Tryz.prog 398 fun398 := SC.okM s398 rfl (fn := Tryz.f398) (by kernel_rfl) (by kernel_rfl)
noncomputable def s411 : SC (Tryz.f411.body.getD .skip) := SC.mk' (by simp only [Tryz.f411, go_sem]; rfl)
noncomputable def fun411 : Fun := ⟨[0, 4, 2, 12, 17, 47, 3], [2], [], 1, s411.1, [.cell 2 true 5, .tmp 3], 0⟩
theorem ok411 : FnM Tryz.prog 411 fun411 := SC.okM s411 rfl (fn := Tryz.f411) (by kernel_rfl) (by kernel_rfl)
noncomputable def s440 : SC (Tryz.f440.body.getD .skip) := SC.mk' (by simp only [Tryz.f440, go_sem]; rfl)
noncomputable def fun440 : Fun := ⟨[0, 1, 5, 15, 4], [], [], 2, s440.1, [.tmp 4], 4⟩
theorem ok440 : FnM Tryz.prog 440 fun440 := SC.okM s440 rfl (fn := Tryz.f440) (by kernel_rfl) (by kernel_rfl)
noncomputable def s445 : SC (Tryz.f445.body.getD .skip) := SC.mk' (by simp only [Tryz.f445, go_sem]; rfl)
noncomputable def fun445 : Fun := ⟨[0, 1, 2, 6, 3, 4, 8, 9, 13, 17, 23, 10, 11, 33, 38, 43, 49, 12, 63, 7], [3, 4, 6], [], 3, s445.1, [.cell 6 true 2, .tmp 7], 6⟩
theorem ok445 : FnM Tryz.prog 445 fun445 := SC.okM s445 rfl (fn := Tryz.f445) (by kernel_rfl) (by kernel_rfl)
noncomputable def s462 : SC (Tryz.f462.body.getD .skip) := SC.mk' (by simp only [Tryz.f462, go_sem]; rfl)
noncomputable def fun462 : Fun := ⟨[0, 1, 8, 5, 7, 9, 16, 4], [], [], 2, s462.1, [.tmp 4], 6⟩
theorem ok462 : FnM Tryz.prog 462 fun462 := SC.okM s462 rfl (fn := Tryz.f462) (by kernel_rfl) (by kernel_rfl)
noncomputable def s466 : SC (Tryz.f466.body.getD .skip) := SC.mk' (by simp only [Tryz.f466, go_sem]; rfl)
noncomputable def fun466 : Fun := ⟨[0, 1, 2], [1], [], 1, s466.1, [.tmp 2], 1⟩
theorem ok466 : FnM Tryz.prog 466 fun466 := SC.okM s466 rfl (fn := Tryz.f466) (by kernel_rfl) (by kernel_rfl)
noncomputable def s468 : SC (Tryz.f468.body.getD .skip) := SC.mk' (by simp only [Tryz.f468, go_sem]; rfl)
noncomputable def fun468 : Fun := ⟨[0, 1, 3, 4], [3], [], 2, s468.1, [.tmp 4], 1⟩
theorem ok468 : FnM Tryz.prog 468 fun468 := SC.okM s468 rfl (fn := Tryz.f468) (by kernel_rfl) (by kernel_rfl)
noncomputable def s470 : SC (Tryz.f470.body.getD .skip) := SC.mk' (by simp only [Tryz.f470, go_sem]; rfl)
noncomputable def fun470 : Fun := ⟨[0, 1, 2, 4, 6, 7, 15, 3, 9, 11, 56, 12, 13, 16, 10, 32, 36, 47, 49, 73, 90, 94, 101, 109, 8], [3, 4, 6, 7, 9, 12], [], 3, s470.1, [.cell 6 true 11, .cell 7 true 5, .tmp 8], 2⟩
theorem ok470 : FnM Tryz.prog 470 fun470 := SC.okM s470 rfl (fn := Tryz.f470) (by kernel_rfl) (by kernel_rfl)
noncomputable def s472 : SC (Tryz.f472.body.getD .skip) := SC.mk' (by simp only [Tryz.f472, go_sem]; rfl)
noncomputable def fun472 : Fun := ⟨[0, 1, 2, 4, 3, 14, 6, 7, 9, 13, 10, 11, 27, 12, 58, 93, 8], [3, 4, 6, 7, 11, 13], [], 3, s472.1, [.cell 6 true 11, .cell 7 true 26, .tmp 8], 3⟩
theorem ok472 : FnM Tryz.prog 472 fun472 := SC.okM s472 rfl (fn := Tryz.f472) (by kernel_rfl) (by kernel_rfl)
noncomputable def s477 : SC (Tryz.f477.body.getD .skip) := SC.mk' (by simp only [Tryz.f477, go_sem]; rfl)
noncomputable def fun477 : Fun := ⟨[0, 1, 2, 4, 3, 9, 12, 6, 7, 10, 11, 22, 45, 63, 76, 8], [3, 4, 6, 7, 10, 11], [], 3, s477.1, [.cell 6 true 11, .cell 7 true 26, .tmp 8], 10⟩
theorem ok477 : FnM Tryz.prog 477 fun477 := SC.okM s477 rfl (fn := Tryz.f477) (by kernel_rfl) (by kernel_rfl)
noncomputable def s486 : SC (Tryz.f486.body.getD .skip) := SC.mk' (by simp only [Tryz.f486, go_sem]; rfl)
noncomputable def fun486 : Fun := ⟨[0, 1, 2, 4, 5, 13, 3], [1, 2, 4], [], 1, s486.1, [.cell 2 true 26, .tmp 3], 1⟩
theorem ok486 : FnM Tryz.prog 486 fun486 := SC.okM s486 rfl (fn := Tryz.f486) (by kernel_rfl) (by kernel_rfl)
noncomputable def s491 : SC (Tryz.f491.body.getD .skip) := SC.mk' (by simp only [Tryz.f491, go_sem]; rfl)
noncomputable def fun491 : Fun := ⟨[0, 1, 2, 3], [2], [], 2, s491.1, [.tmp 3], 0⟩
theorem ok491 : FnM Tryz.prog 491 fun491 := SC.okM s491 rfl (fn := Tryz.f491) (by kernel_rfl) (by kernel_rfl)
noncomputable def s496 : SC (Tryz.f496.body.getD .skip) := SC.mk' (by simp only [Tryz.f496, go_sem]; rfl)
noncomputable def fun496 : Fun := ⟨[0, 1, 4], [], [], 2, s496.1, [], 8⟩
theorem ok496 : FnM Tryz.prog 496 fun496 := SC.okM s496 rfl (fn := Tryz.f496) (by kernel_rfl) (by kernel_rfl)
noncomputable def s497 : SC (Tryz.f497.body.getD .skip) := SC.mk' (by simp only [Tryz.f497, go_sem]; rfl)
noncomputable def fun497 : Fun := ⟨[0, 1, 2, 3, 4], [2, 3], [], 2, s497.1, [.tmp 4], 2⟩
theorem ok497 : FnM Tryz.prog 497 fun497 := SC.okM s497 rfl (fn := Tryz.f497) (by kernel_rfl) (by kernel_rfl)
noncomputable def s511 : SC (Tryz.f511.body.getD .skip) := SC.mk' (by simp only [Tryz.f511, go_sem]; rfl)
noncomputable def fun511 : Fun := ⟨[0, 1, 2, 6, 16, 4, 5], [2], [], 2, s511.1, [.tmp 4, .tmp 5], 0⟩
theorem ok511 : FnM Tryz.prog 511 fun511 := SC.okM s511 rfl (fn := Tryz.f511) (by kernel_rfl) (by kernel_rfl)
noncomputable def s518 : SC (Tryz.f518.body.getD .skip) := SC.mk' (by simp only [Tryz.f518, go_sem]; rfl)
noncomputable def fun518 : Fun := ⟨[0, 1, 2, 4, 14, 20, 3], [1, 2], [], 1, s518.1, [.cell 2 true 4, .tmp 3], 0⟩
theorem ok518 : FnM Tryz.prog 518 fun518 := SC.okM s518 rfl (fn := Tryz.f518) (by kernel_rfl) (by kernel_rfl)
noncomputable def s532 : SC (Tryz.f532.body.getD .skip) := SC.mk' (by simp only [Tryz.f532, go_sem]; rfl)
noncomputable def fun532 : Fun := ⟨[0, 2], [], [], 1, s532.1, [.tmp 2], 1⟩
theorem ok532 : FnM Tryz.prog 532 fun532 := SC.okM s532 rfl (fn := Tryz.f532) (by kernel_rfl) (by kernel_rfl)
noncomputable def s539 : SC (Tryz.f539.body.getD .skip) := SC.mk' (by simp only [Tryz.f539, go_sem]; rfl)
noncomputable def fun539 : Fun := ⟨[0, 1, 2, 9, 4], [2], [], 2, s539.1, [.tmp 4], 0⟩
theorem ok539 : FnM Tryz.prog 539 fun539 := SC.okM s539 rfl (fn := Tryz.f539) (by kernel_rfl) (by kernel_rfl)
noncomputable def s554 : SC (Tryz.f554.body.getD .skip) := SC.mk' (by simp only [Tryz.f554, go_sem]; rfl)
noncomputable def fun554 : Fun := ⟨[0, 2, 4, 8, 14], [], [], 1, s554.1, [.tmp 2], 0⟩
theorem ok554 : FnM Tryz.prog 554 fun554 := SC.okM s554 rfl (fn := Tryz.f554) (by kernel_rfl) (by kernel_rfl)
end Go.M
