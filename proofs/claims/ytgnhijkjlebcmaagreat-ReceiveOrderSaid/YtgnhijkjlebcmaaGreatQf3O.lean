/-
  The codes of functions, as the machine takes them.
  No condition: definitions and lemmas.
-/
import Derived.Test.YtgnhijkjlebcmaaGreatQtyO
set_option linter.all false
set_option maxRecDepth 100000
set_option maxHeartbeats 4000000
namespace Go.M
open Go Go.Proofs
open Go.Eng (SOp SOper SCode sizeP aggP zerosOf bytesP zeroVal stripCode stripOps stripOper strip stripParts kindsOf kinds2)
noncomputable def s11 : SC (Tryz.f11.body.getD .skip) := SC.mk' (by simp only [Tryz.f11, go_sem]; rfl)
noncomputable def fun11 : Fun := ⟨[0, 1, 6, 8, 2, 5, 7, 9, 10, 21, 32, 45, 3, 4], [1, 2, 9], [], 1, s11.1, [.cell 2 true 23, .tmp 3, .tmp 4], 1105⟩
theorem ok11 : FnM Tryz.prog 11 fun11 := SC.okM s11 rfl (fn := Tryz.f11) (by kernel_rfl) (by kernel_rfl)
noncomputable def s45 : SC (Tryz.f45.body.getD .skip) := SC.mk' (by simp only [Tryz.f45, go_sem]; rfl)
noncomputable def fun45 : Fun := ⟨[0, 1, 2, 3, 5, 4, 8], [4, 5, 8], [], 4, s45.1, [.cell 8 true 63], 195⟩
theorem ok45 : FnM Tryz.prog 45 fun45 := SC.okM s45 rfl (fn := Tryz.f45) (by kernel_rfl) (by kernel_rfl)
noncomputable def s48 : SC (Tryz.f48.body.getD .skip) := SC.mk' (by simp only [Tryz.f48, go_sem]; rfl)
noncomputable def fun48 : Fun := ⟨[0, 1, 2, 4], [2], [], 2, s48.1, [.tmp 4], 520⟩
theorem ok48 : FnM Tryz.prog 48 fun48 := SC.okM s48 rfl (fn := Tryz.f48) (by kernel_rfl) (by kernel_rfl)
noncomputable def s76 : SC (Tryz.f76.body.getD .skip) := SC.mk' (by simp only [Tryz.f76, go_sem]; rfl)
noncomputable def fun76 : Fun := ⟨[0, 1, 4, 6, 7, 14, 22, 5], [4, 6], [], 2, s76.1, [.cell 4 true 26, .tmp 5], 65⟩
theorem ok76 : FnM Tryz.prog 76 fun76 := SC.okM s76 rfl (fn := Tryz.f76) (by kernel_rfl) (by kernel_rfl)
noncomputable def s79 : SC (Tryz.f79.body.getD .skip) := SC.mk' (by simp only [Tryz.f79, go_sem]; rfl)
noncomputable def fun79 : Fun := ⟨[0, 1, 2], [1, 2], [], 1, s79.1, [.cell 2 true 6], 0⟩
theorem ok79 : FnM Tryz.prog 79 fun79 := SC.okM s79 rfl (fn := Tryz.f79) (by kernel_rfl) (by kernel_rfl)
noncomputable def s80 : SC (Tryz.f80.body.getD .skip) := SC.mk' (by simp only [Tryz.f80, go_sem]; rfl)
noncomputable def fun80 : Fun := ⟨[0, 1, 2, 3, 4], [2, 3, 4], [], 2, s80.1, [.cell 4 true 63], 260⟩
theorem ok80 : FnM Tryz.prog 80 fun80 := SC.okM s80 rfl (fn := Tryz.f80) (by kernel_rfl) (by kernel_rfl)
noncomputable def s106 : SC (Tryz.f106.body.getD .skip) := SC.mk' (by simp only [Tryz.f106, go_sem]; rfl)
noncomputable def fun106 : Fun := ⟨[0, 1, 2, 4, 3], [1, 2], [], 1, s106.1, [.cell 2 true 63, .tmp 3], 195⟩
theorem ok106 : FnM Tryz.prog 106 fun106 := SC.okM s106 rfl (fn := Tryz.f106) (by kernel_rfl) (by kernel_rfl)
noncomputable def s135 : SC (Tryz.f135.body.getD .skip) := SC.mk' (by simp only [Tryz.f135, go_sem]; rfl)
noncomputable def fun135 : Fun := ⟨[0, 2], [], [], 1, s135.1, [.tmp 2], 0⟩
theorem ok135 : FnM Tryz.prog 135 fun135 := SC.okM s135 rfl (fn := Tryz.f135) (by kernel_rfl) (by kernel_rfl)
noncomputable def s153 : SC (Tryz.f153.body.getD .skip) := SC.mk' (by simp only [Tryz.f153, go_sem]; rfl)
noncomputable def fun153 : Fun := ⟨[0, 1, 2, 18, 27, 4], [2], [], 2, s153.1, [.tmp 4], 325⟩
theorem ok153 : FnM Tryz.prog 153 fun153 := SC.okM s153 rfl (fn := Tryz.f153) (by kernel_rfl) (by kernel_rfl)
noncomputable def s156 : SC (Tryz.f156.body.getD .skip) := SC.mk' (by simp only [Tryz.f156, go_sem]; rfl)
noncomputable def fun156 : Fun := ⟨[0, 1, 10, 8, 9, 2, 3, 13, 17, 6, 7, 11, 12, 90, 109, 88, 107, 34, 49, 61, 77, 84, 89, 91, 15, 108, 110, 139, 153, 4, 5], [1, 2, 3, 6, 7, 8, 9, 10, 13, 17], [], 1, s156.1, [.cell 2 true 63, .cell 3 true 6, .tmp 4, .tmp 5], 1170⟩
theorem ok156 : FnM Tryz.prog 156 fun156 := SC.okM s156 rfl (fn := Tryz.f156) (by kernel_rfl) (by kernel_rfl)
noncomputable def s157 : SC (Tryz.f157.body.getD .skip) := SC.mk' (by simp only [Tryz.f157, go_sem]; rfl)
noncomputable def fun157 : Fun := ⟨[0, 1, 2, 6, 10, 4, 31, 7, 8, 29, 12, 18, 25, 30, 32, 11, 52, 70, 93, 5], [2, 4, 6, 7, 10], [], 2, s157.1, [.cell 4 true 63, .tmp 5], 1170⟩
theorem ok157 : FnM Tryz.prog 157 fun157 := SC.okM s157 rfl (fn := Tryz.f157) (by kernel_rfl) (by kernel_rfl)
noncomputable def s198 : SC (Tryz.f198.body.getD .skip) := SC.mk' (by simp only [Tryz.f198, go_sem]; rfl)
noncomputable def fun198 : Fun := ⟨[0, 1, 3, 2, 7, 9, 4, 5, 8, 21, 48, 6], [2, 3, 4, 5, 9], [], 2, s198.1, [.cell 4 true 11, .cell 5 true 26, .tmp 6], 130⟩
theorem ok198 : FnM Tryz.prog 198 fun198 := SC.okM s198 rfl (fn := Tryz.f198) (by kernel_rfl) (by kernel_rfl)
noncomputable def s200 : SC (Tryz.f200.body.getD .skip) := SC.mk' (by simp only [Tryz.f200, go_sem]; rfl)
noncomputable def fun200 : Fun := ⟨[0, 1, 2, 4, 3, 6, 7, 9, 10, 11, 29, 53, 67, 79, 8], [3, 4, 6, 7], [], 3, s200.1, [.cell 6 true 11, .cell 7 true 26, .tmp 8], 520⟩
theorem ok200 : FnM Tryz.prog 200 fun200 := SC.okM s200 rfl (fn := Tryz.f200) (by kernel_rfl) (by kernel_rfl)
noncomputable def s206 : SC (Tryz.f206.body.getD .skip) := SC.mk' (by simp only [Tryz.f206, go_sem]; rfl)
noncomputable def fun206 : Fun := ⟨[0, 1, 2], [1], [], 1, s206.1, [.tmp 2], 325⟩
theorem ok206 : FnM Tryz.prog 206 fun206 := SC.okM s206 rfl (fn := Tryz.f206) (by kernel_rfl) (by kernel_rfl)
noncomputable def s269 : SC (Tryz.f269.body.getD .skip) := SC.mk' (by simp only [Tryz.f269, go_sem]; rfl)
noncomputable def fun269 : Fun := ⟨[0, 1], [], [], 2, s269.1, [], 0⟩
theorem ok269 : FnM Tryz.prog 269 fun269 := SC.okM s269 rfl (fn := Tryz.f269) (by kernel_rfl) (by kernel_rfl)
noncomputable def s270 : SC (Tryz.f270.body.getD .skip) := SC.mk' (by simp only [Tryz.f270, go_sem]; rfl)
noncomputable def fun270 : Fun := ⟨[0, 1, 2, 4, 14, 5], [2, 4], [], 2, s270.1, [.cell 4 true 4, .tmp 5], 0⟩
theorem ok270 : FnM Tryz.prog 270 fun270 := SC.okM s270 rfl (fn := Tryz.f270) (by kernel_rfl) (by kernel_rfl)
noncomputable def s309 : SC (Tryz.f309.body.getD .skip) := SC.mk' (by simp only [Tryz.f309, go_sem]; rfl)
noncomputable def fun309 : Fun := ⟨[0, 1, 38, 42, 2], [1], [], 1, s309.1, [.tmp 2], 65⟩
theorem ok309 : FnM Tryz.prog 309 fun309 := SC.okM s309 rfl (fn := Tryz.f309) (by kernel_rfl) (by kernel_rfl)
noncomputable def s310 : SC (Tryz.f310.body.getD .skip) := SC.mk' (by simp only [Tryz.f310, go_sem]; rfl)
noncomputable def fun310 : Fun := ⟨[0, 4, 5, 3, 8, 12, 20, 24, 35, 39, 52, 2], [], [], 1, s310.1, [.tmp 2], 65⟩
theorem ok310 : FnM Tryz.prog 310 fun310 := SC.okM s310 rfl (fn := Tryz.f310) (by kernel_rfl) (by kernel_rfl)
noncomputable def s337 : SC (Tryz.f337.body.getD .skip) := SC.mk' (by simp only [Tryz.f337, go_sem]; rfl)
noncomputable def fun337 : Fun := ⟨[0, 1, 2, 4], [2], [], 2, s337.1, [.tmp 4], 0⟩
theorem ok337 : FnM Tryz.prog 337 fun337 := SC.okM s337 rfl (fn := Tryz.f337) (by kernel_rfl) (by kernel_rfl)
noncomputable def s358 : SC (Tryz.f358.body.getD .skip) := SC.mk' (by simp only [Tryz.f358, go_sem]; rfl)
noncomputable def fun358 : Fun := ⟨[0, 1, 2, 4], [2], [], 2, s358.1, [.tmp 4], 0⟩
theorem ok358 : FnM Tryz.prog 358 fun358 := SC.okM s358 rfl (fn := Tryz.f358) (by kernel_rfl) (by kernel_rfl)
noncomputable def s368 : SC (Tryz.f368.body.getD .skip) := SC.mk' (by simp only [Tryz.f368, go_sem]; rfl)
noncomputable def fun368 : Fun := ⟨[0, 1, 4, 14, 12, 3, 5, 6, 10, 13, 15, 23, 25, 30, 35, 57, 61, 2], [1, 4], [], 1, s368.1, [.tmp 2], 325⟩
theorem ok368 : FnM Tryz.prog 368 fun368 := SC.okM s368 rfl (fn := Tryz.f368) (by kernel_rfl) (by kernel_rfl)
noncomputable def s370 : SC (Tryz.f370.body.getD .skip) := SC.mk' (by simp only [Tryz.f370, go_sem]; rfl)
noncomputable def fun370 : Fun := ⟨[0, 1, 2, 6, 3, 4, 8, 9, 13, 17, 23, 10, 11, 33, 38, 43, 49, 12, 63, 7], [3, 4, 6], [], 3, s370.1, [.cell 6 true 2, .tmp 7], 390⟩
theorem ok370 : FnM Tryz.prog 370 fun370 := SC.okM s370 rfl (fn := Tryz.f370) (by kernel_rfl) (by kernel_rfl)
noncomputable def s377 : SC (Tryz.f377.body.getD .skip) := SC.mk' (by simp only [Tryz.f377, go_sem]; rfl)
noncomputable def fun377 : Fun := ⟨[0, 1, 2, 3, 6, 11], [3, 6], [], 3, s377.1, [.cell 6 true 11], 0⟩
theorem ok377 : FnM Tryz.prog 377 fun377 := SC.okM s377 rfl (fn := Tryz.f377) (by kernel_rfl) (by kernel_rfl)
noncomputable def s387 : SC (Tryz.f387.body.getD .skip) := SC.mk' (by simp only [Tryz.f387, go_sem]; rfl)
noncomputable def fun387 : Fun := ⟨[0, 4, 2], [], [], 1, s387.1, [.tmp 2], 0⟩
theorem ok387 : FnM Tryz.prog 387 fun387 := SC.okM s387 rfl (fn := Tryz.f387) (by kernel_rfl) (by kernel_rfl)
noncomputable def s396 : SC (Tryz.f396.body.getD .skip) := SC.mk' (by simp only [Tryz.f396, go_sem]; rfl)
noncomputable def fun396 : Fun := ⟨[0, 1, 2, 4, 5], [2], [], 2, s396.1, [.tmp 4, .tmp 5], 260⟩
theorem ok396 : FnM Tryz.prog 396 fun396 := SC.okM s396 rfl (fn := Tryz.f396) (by kernel_rfl) (by kernel_rfl)
noncomputable def s415 : SC (Tryz.f415.body.getD .skip) := SC.mk' (by simp only [Tryz.f415, go_sem]; rfl)
noncomputable def fun415 : Fun := ⟨[0, 13, 5, 11, 4, 8, 10, 12, 14, 3, 23, 28, 36, 2], [4], [], 1, s415.1, [.tmp 2], 260⟩
theorem ok415 : FnM Tryz.prog 415 fun415 := SC.okM s415 rfl (fn := Tryz.f415) (by kernel_rfl) (by kernel_rfl)
noncomputable def s417 : SC (Tryz.f417.body.getD .skip) := SC.mk' (by simp only [Tryz.f417, go_sem]; rfl)
noncomputable def fun417 : Fun := ⟨[0, 1, 2, 7, 8, 9, 16, 22, 31, 68, 6], [], [], 3, s417.1, [.tmp 6], 195⟩
theorem ok417 : FnM Tryz.prog 417 fun417 := SC.okM s417 rfl (fn := Tryz.f417) (by kernel_rfl) (by kernel_rfl)
noncomputable def s419 : SC (Tryz.f419.body.getD .skip) := SC.mk' (by simp only [Tryz.f419, go_sem]; rfl)
noncomputable def fun419 : Fun := ⟨[0, 1, 8, 5, 7, 9, 16, 4], [], [], 2, s419.1, [.tmp 4], 0⟩
theorem ok419 : FnM Tryz.prog 419 fun419 := SC.okM s419 rfl (fn := Tryz.f419) (by kernel_rfl) (by kernel_rfl)
noncomputable def s432 : SC (Tryz.f432.body.getD .skip) := SC.mk' (by simp only [Tryz.f432, go_sem]; rfl)
noncomputable def fun432 : Fun := ⟨[0, 1, 2, 4, 8, 11, 16, 3], [1, 2], [], 1, s432.1, [.cell 2 true 7, .tmp 3], 130⟩
theorem ok432 : FnM Tryz.prog 432 fun432 := SC.okM s432 rfl (fn := Tryz.f432) (by kernel_rfl) (by kernel_rfl)
noncomputable def s438 : SC (Tryz.f438.body.getD .skip) := SC.mk' (by simp only [Tryz.f438, go_sem]; rfl)
noncomputable def fun438 : Fun := ⟨[0, 1, 2], [1], [], 1, s438.1, [.tmp 2], 65⟩
theorem ok438 : FnM Tryz.prog 438 fun438 := SC.okM s438 rfl (fn := Tryz.f438) (by kernel_rfl) (by kernel_rfl)
noncomputable def s440 : SC (Tryz.f440.body.getD .skip) := SC.mk' (by simp only [Tryz.f440, go_sem]; rfl)
noncomputable def fun440 : Fun := ⟨[0, 1, 3, 4], [3], [], 2, s440.1, [.tmp 4], 65⟩
theorem ok440 : FnM Tryz.prog 440 fun440 := SC.okM s440 rfl (fn := Tryz.f440) (by kernel_rfl) (by kernel_rfl)
end Go.M
