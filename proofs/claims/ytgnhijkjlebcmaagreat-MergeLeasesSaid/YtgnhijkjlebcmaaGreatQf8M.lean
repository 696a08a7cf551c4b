/-
  The codes of functions, as the machine takes them.
  No condition: definitions and lemmas.
-/
import Derived.Test.YtgnhijkjlebcmaaGreatQtyM
set_option linter.all false
set_option maxRecDepth 100000
set_option maxHeartbeats 4000000
namespace Go.M
open Go Go.Proofs
open Go.Eng (SOp SOper SCode sizeP aggP zerosOf bytesP zeroVal stripCode stripOps stripOper strip stripParts kindsOf kinds2)
noncomputable def s34 : SC (Tryz.f34.body.getD .skip) := SC.mk' (by simp only [Tryz.f34, go_sem]; rfl)
noncomputable def fun34 : Fun := ⟨[0, 4, 1, 6, 7, 8, 3, 5, 19, 2], [1, 8], [], 1, s34.1, [.tmp 2], 65⟩
theorem ok34 : FnM Tryz.prog 34 fun34 := SC.okM s34 rfl (fn := Tryz.f34) (by kernel_rfl) (by kernel_rfl)
noncomputable def s35 : SC (Tryz.f35.body.getD .skip) := SC.mk' (by simp only [Tryz.f35, go_sem]; rfl)
noncomputable def fun35 : Fun := ⟨[0, 1, 2, 8, 6, 11, 4, 7, 10, 9, 30, 61, 5], [2, 4, 6, 7, 8], [66], 2, s35.1, [.cell 4 true 23, .tmp 5], 1040⟩
theorem ok35 : FnM Tryz.prog 35 fun35 := SC.okM s35 rfl (fn := Tryz.f35) (by kernel_rfl) (by kernel_rfl)
noncomputable def s54 : SC (Tryz.f54.body.getD .skip) := SC.mk' (by simp only [Tryz.f54, go_sem]; rfl)
noncomputable def fun54 : Fun := ⟨[0, 1, 4], [], [], 2, s54.1, [.tmp 4], 0⟩
theorem ok54 : FnM Tryz.prog 54 fun54 := SC.okM s54 rfl (fn := Tryz.f54) (by kernel_rfl) (by kernel_rfl)
noncomputable def s61 : SC (Tryz.f61.body.getD .skip) := SC.mk' (by simp only [Tryz.f61, go_sem]; rfl)
noncomputable def fun61 : Fun := ⟨[0, 1, 2, 6], [], [], 3, s61.1, [.tmp 6], 0⟩
theorem ok61 : FnM Tryz.prog 61 fun61 := SC.okM s61 rfl (fn := Tryz.f61) (by kernel_rfl) (by kernel_rfl)
noncomputable def s65 : SC (Tryz.f65.body.getD .skip) := SC.mk' (by simp only [Tryz.f65, go_sem]; rfl)
noncomputable def fun65 : Fun := ⟨[0, 2, 9, 3], [2], [], 1, s65.1, [.cell 2 true 2, .tmp 3], 0⟩
theorem ok65 : FnM Tryz.prog 65 fun65 := SC.okM s65 rfl (fn := Tryz.f65) (by kernel_rfl) (by kernel_rfl)
noncomputable def s71 : SC (Tryz.f71.body.getD .skip) := SC.mk' (by simp only [Tryz.f71, go_sem]; rfl)
noncomputable def fun71 : Fun := ⟨[0, 1, 2, 3, 11, 8, 9, 12, 4, 5, 22, 10], [4, 5, 8, 9], [], 4, s71.1, [.cell 8 true 11, .cell 9 true 26, .tmp 10], 845⟩
theorem ok71 : FnM Tryz.prog 71 fun71 := SC.okM s71 rfl (fn := Tryz.f71) (by kernel_rfl) (by kernel_rfl)
noncomputable def s77 : SC (Tryz.f77.body.getD .skip) := SC.mk' (by simp only [Tryz.f77, go_sem]; rfl)
noncomputable def fun77 : Fun := ⟨[0, 1, 2], [1, 2], [], 1, s77.1, [.cell 2 true 3], 0⟩
theorem ok77 : FnM Tryz.prog 77 fun77 := SC.okM s77 rfl (fn := Tryz.f77) (by kernel_rfl) (by kernel_rfl)
noncomputable def s81 : SC (Tryz.f81.body.getD .skip) := SC.mk' (by simp only [Tryz.f81, go_sem]; rfl)
noncomputable def fun81 : Fun := ⟨[0, 1, 5, 2, 4], [2, 4, 5], [], 2, s81.1, [.cell 4 true 10], 0⟩
theorem ok81 : FnM Tryz.prog 81 fun81 := SC.okM s81 rfl (fn := Tryz.f81) (by kernel_rfl) (by kernel_rfl)
noncomputable def s83 : SC (Tryz.f83.body.getD .skip) := SC.mk' (by simp only [Tryz.f83, go_sem]; rfl)
noncomputable def fun83 : Fun := ⟨[0, 1, 2, 3, 4, 5, 8, 10, 17, 9], [4, 5, 8], [], 4, s83.1, [.cell 8 true 8, .tmp 9], 650⟩
theorem ok83 : FnM Tryz.prog 83 fun83 := SC.okM s83 rfl (fn := Tryz.f83) (by kernel_rfl) (by kernel_rfl)
noncomputable def s119 : SC (Tryz.f119.body.getD .skip) := SC.mk' (by simp only [Tryz.f119, go_sem]; rfl)
noncomputable def fun119 : Fun := ⟨[0, 17, 2, 5, 15, 4, 13, 16, 18, 40, 3], [2], [], 1, s119.1, [.cell 2 true 5, .tmp 3], 65⟩
theorem ok119 : FnM Tryz.prog 119 fun119 := SC.okM s119 rfl (fn := Tryz.f119) (by kernel_rfl) (by kernel_rfl)
noncomputable def s144 : SC (Tryz.f144.body.getD .skip) := SC.mk' (by simp only [Tryz.f144, go_sem]; rfl)
noncomputable def fun144 : Fun := ⟨[0, 13, 1, 3, 11, 5, 12, 14, 2], [1, 5], [], 1, s144.1, [.tmp 2], 260⟩
theorem ok144 : FnM Tryz.prog 144 fun144 := SC.okM s144 rfl (fn := Tryz.f144) (by kernel_rfl) (by kernel_rfl)
noncomputable def s148 : SC (Tryz.f148.body.getD .skip) := SC.mk' (by simp only [Tryz.f148, go_sem]; rfl)
noncomputable def fun148 : Fun := ⟨[0, 1, 3, 39, 37, 5, 9, 26, 31, 38, 40, 4, 50, 54, 2], [1, 5], [], 1, s148.1, [.tmp 2], 260⟩
theorem ok148 : FnM Tryz.prog 148 fun148 := SC.okM s148 rfl (fn := Tryz.f148) (by kernel_rfl) (by kernel_rfl)
noncomputable def s158 : SC (Tryz.f158.body.getD .skip) := SC.mk' (by simp only [Tryz.f158, go_sem]; rfl)
noncomputable def fun158 : Fun := ⟨[0, 1, 2, 6, 7, 11, 15, 4, 5], [2], [], 2, s158.1, [.tmp 4, .tmp 5], 0⟩
theorem ok158 : FnM Tryz.prog 158 fun158 := SC.okM s158 rfl (fn := Tryz.f158) (by kernel_rfl) (by kernel_rfl)
noncomputable def s165 : SC (Tryz.f165.body.getD .skip) := SC.mk' (by simp only [Tryz.f165, go_sem]; rfl)
noncomputable def fun165 : Fun := ⟨[0, 1, 6, 5, 9, 4, 8, 10, 11, 13, 14, 2, 12, 7, 29, 43, 59, 65, 89, 106, 114, 143, 3], [1, 2, 4, 5, 6, 7, 11, 14], [], 1, s165.1, [.cell 2 true 63, .tmp 3], 650⟩
theorem ok165 : FnM Tryz.prog 165 fun165 := SC.okM s165 rfl (fn := Tryz.f165) (by kernel_rfl) (by kernel_rfl)
noncomputable def s180 : SC (Tryz.f180.body.getD .skip) := SC.mk' (by simp only [Tryz.f180, go_sem]; rfl)
noncomputable def fun180 : Fun := ⟨[0, 3, 30, 32, 47, 57, 2], [], [], 1, s180.1, [.tmp 2], 585⟩
theorem ok180 : FnM Tryz.prog 180 fun180 := SC.okM s180 rfl (fn := Tryz.f180) (by kernel_rfl) (by kernel_rfl)
noncomputable def s183 : SC (Tryz.f183.body.getD .skip) := SC.mk' (by simp only [Tryz.f183, go_sem]; rfl)
noncomputable def fun183 : Fun := ⟨[0, 3, 31, 2], [], [], 1, s183.1, [.tmp 2], 130⟩
theorem ok183 : FnM Tryz.prog 183 fun183 := SC.okM s183 rfl (fn := Tryz.f183) (by kernel_rfl) (by kernel_rfl)
noncomputable def s186 : SC (Tryz.f186.body.getD .skip) := SC.mk' (by simp only [Tryz.f186, go_sem]; rfl)
noncomputable def fun186 : Fun := ⟨[0, 3, 6, 4, 5, 44, 71, 106, 134, 156, 2], [4, 5], [], 1, s186.1, [.tmp 2], 715⟩
theorem ok186 : FnM Tryz.prog 186 fun186 := SC.okM s186 rfl (fn := Tryz.f186) (by kernel_rfl) (by kernel_rfl)
noncomputable def s195 : SC (Tryz.f195.body.getD .skip) := SC.mk' (by simp only [Tryz.f195, go_sem]; rfl)
noncomputable def fun195 : Fun := ⟨[0, 1, 2, 4], [2, 4], [], 2, s195.1, [.cell 4 true 26], 0⟩
theorem ok195 : FnM Tryz.prog 195 fun195 := SC.okM s195 rfl (fn := Tryz.f195) (by kernel_rfl) (by kernel_rfl)
noncomputable def s203 : SC (Tryz.f203.body.getD .skip) := SC.mk' (by simp only [Tryz.f203, go_sem]; rfl)
noncomputable def fun203 : Fun := ⟨[0, 1, 3, 2, 4, 5, 11, 7, 6], [2, 3, 4, 5], [], 2, s203.1, [.cell 4 true 11, .cell 5 true 26, .tmp 6], 130⟩
theorem ok203 : FnM Tryz.prog 203 fun203 := SC.okM s203 rfl (fn := Tryz.f203) (by kernel_rfl) (by kernel_rfl)
noncomputable def s224 : SC (Tryz.f224.body.getD .skip) := SC.mk' (by simp only [Tryz.f224, go_sem]; rfl)
noncomputable def fun224 : Fun := ⟨[0, 1, 2, 3], [2], [], 2, s224.1, [.tmp 3], 0⟩
theorem ok224 : FnM Tryz.prog 224 fun224 := SC.okM s224 rfl (fn := Tryz.f224) (by kernel_rfl) (by kernel_rfl)
noncomputable def s236 : SC (Tryz.f236.body.getD .skip) := SC.mk' (by simp only [Tryz.f236, go_sem]; rfl)
noncomputable def fun236 : Fun := ⟨[0, 1, 2, 3, 6, 35, 7], [3, 6], [], 3, s236.1, [.cell 6 true 2, .tmp 7], 0⟩
theorem ok236 : FnM Tryz.prog 236 fun236 := SC.okM s236 rfl (fn := Tryz.f236) (by kernel_rfl) (by kernel_rfl)
noncomputable def s270 : SC (Tryz.f270.body.getD .skip) := SC.mk' (by simp only [Tryz.f270, go_sem]; rfl)
noncomputable def fun270 : Fun := ⟨[0, 1, 2, 4, 14, 5], [2, 4], [], 2, s270.1, [.cell 4 true 4, .tmp 5], 0⟩
theorem ok270 : FnM Tryz.prog 270 fun270 := SC.okM s270 rfl (fn := Tryz.f270) (by kernel_rfl) (by kernel_rfl)
noncomputable def s271 : SC (Tryz.f271.body.getD .skip) := SC.mk' (by simp only [Tryz.f271, go_sem]; rfl)
noncomputable def fun271 : Fun := ⟨[0, 2], [], [], 1, s271.1, [.tmp 2], 0⟩
theorem ok271 : FnM Tryz.prog 271 fun271 := SC.okM s271 rfl (fn := Tryz.f271) (by kernel_rfl) (by kernel_rfl)
noncomputable def s296 : SC (Tryz.f296.body.getD .skip) := SC.mk' (by simp only [Tryz.f296, go_sem]; rfl)
noncomputable def fun296 : Fun := ⟨[0, 1, 2, 3, 6, 22, 27, 7, 8], [3, 6], [], 3, s296.1, [.cell 6 true 11, .tmp 7, .tmp 8], 65⟩
theorem ok296 : FnM Tryz.prog 296 fun296 := SC.okM s296 rfl (fn := Tryz.f296) (by kernel_rfl) (by kernel_rfl)
noncomputable def s306 : SC (Tryz.f306.body.getD .skip) := SC.mk' (by simp only [Tryz.f306, go_sem]; rfl)
noncomputable def fun306 : Fun := ⟨[0, 1, 5, 2, 11, 21, 4], [2], [], 2, s306.1, [.tmp 4], 0⟩
theorem ok306 : FnM Tryz.prog 306 fun306 := SC.okM s306 rfl (fn := Tryz.f306) (by kernel_rfl) (by kernel_rfl)
noncomputable def s308 : SC (Tryz.f308.body.getD .skip) := SC.mk' (by simp only [Tryz.f308, go_sem]; rfl)
noncomputable def fun308 : Fun := ⟨[0, 1, 2, 4, 5, 13, 3], [1, 2, 4], [], 1, s308.1, [.cell 2 true 26, .tmp 3], 65⟩
theorem ok308 : FnM Tryz.prog 308 fun308 := SC.okM s308 rfl (fn := Tryz.f308) (by kernel_rfl) (by kernel_rfl)
noncomputable def s337 : SC (Tryz.f337.body.getD .skip) := SC.mk' (by simp only [Tryz.f337, go_sem]; rfl)
noncomputable def fun337 : Fun := ⟨[0, 1, 2, 4], [2], [], 2, s337.1, [.tmp 4], 0⟩
theorem ok337 : FnM Tryz.prog 337 fun337 := SC.okM s337 rfl (fn := Tryz.f337) (by kernel_rfl) (by kernel_rfl)
noncomputable def s344 : SC (Tryz.f344.body.getD .skip) := SC.mk' (by simp only [Tryz.f344, go_sem]; rfl)
noncomputable def fun344 : Fun := ⟨[0, 1, 2, 3, 4, 5, 6, 12, 18, 19, 16, 17, 15, 24, 52, 57, 70, 80, 13, 14], [6, 12, 19], [], 6, s344.1, [.cell 12 true 8, .tmp 13, .tmp 14], 520⟩
theorem ok344 : FnM Tryz.prog 344 fun344 := SC.okM s344 rfl (fn := Tryz.f344) (by kernel_rfl) (by kernel_rfl)
noncomputable def s352 : SC (Tryz.f352.body.getD .skip) := SC.mk' (by simp only [Tryz.f352, go_sem]; rfl)
noncomputable def fun352 : Fun := ⟨[0, 1, 2, 4, 3, 6, 7, 9, 20, 37, 54, 58, 8], [3, 4, 6, 7], [], 3, s352.1, [.cell 6 true 11, .cell 7 true 5, .tmp 8], 195⟩
theorem ok352 : FnM Tryz.prog 352 fun352 := SC.okM s352 rfl (fn := Tryz.f352) (by kernel_rfl) (by kernel_rfl)
noncomputable def s368 : SC (Tryz.f368.body.getD .skip) := SC.mk' (by simp only [Tryz.f368, go_sem]; rfl)
noncomputable def fun368 : Fun := ⟨[0, 1, 4, 14, 12, 3, 5, 6, 10, 13, 15, 23, 25, 30, 35, 57, 61, 2], [1, 4], [], 1, s368.1, [.tmp 2], 325⟩
theorem ok368 : FnM Tryz.prog 368 fun368 := SC.okM s368 rfl (fn := Tryz.f368) (by kernel_rfl) (by kernel_rfl)
noncomputable def s369 : SC (Tryz.f369.body.getD .skip) := SC.mk' (by simp only [Tryz.f369, go_sem]; rfl)
noncomputable def fun369 : Fun := ⟨[0, 1, 4], [], [], 2, s369.1, [.tmp 4], 0⟩
theorem ok369 : FnM Tryz.prog 369 fun369 := SC.okM s369 rfl (fn := Tryz.f369) (by kernel_rfl) (by kernel_rfl)
noncomputable def s383 : SC (Tryz.f383.body.getD .skip) := SC.mk' (by simp only [Tryz.f383, go_sem]; rfl)
noncomputable def fun383 : Fun := ⟨[0, 1, 5, 2], [1], [], 1, s383.1, [.tmp 2], 195⟩
theorem ok383 : FnM Tryz.prog 383 fun383 := SC.okM s383 rfl (fn := Tryz.f383) (by kernel_rfl) (by kernel_rfl)
noncomputable def s418 : SC (Tryz.f418.body.getD .skip) := SC.mk' (by simp only [Tryz.f418, go_sem]; rfl)
noncomputable def fun418 : Fun := ⟨[0, 1, 2, 6], [], [], 3, s418.1, [.tmp 6], 0⟩
theorem ok418 : FnM Tryz.prog 418 fun418 := SC.okM s418 rfl (fn := Tryz.f418) (by kernel_rfl) (by kernel_rfl)
noncomputable def s419 : SC (Tryz.f419.body.getD .skip) := SC.mk' (by simp only [Tryz.f419, go_sem]; rfl)
noncomputable def fun419 : Fun := ⟨[0, 1, 8, 5, 7, 9, 16, 4], [], [], 2, s419.1, [.tmp 4], 0⟩
theorem ok419 : FnM Tryz.prog 419 fun419 := SC.okM s419 rfl (fn := Tryz.f419) (by kernel_rfl) (by kernel_rfl)
noncomputable def s438 : SC (Tryz.f438.body.getD .skip) := SC.mk' (by simp only [Tryz.f438, go_sem]; rfl)
noncomputable def fun438 : Fun := ⟨[0, 1, 2], [1], [], 1, s438.1, [.tmp 2], 65⟩
theorem ok438 : FnM Tryz.prog 438 fun438 := SC.okM s438 rfl (fn := Tryz.f438) (by kernel_rfl) (by kernel_rfl)
end Go.M
