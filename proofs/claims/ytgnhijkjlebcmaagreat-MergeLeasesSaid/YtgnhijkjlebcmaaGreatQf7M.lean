/-
  The codes of functions, as the machine takes them.
  No condition: definitions and lemmas.
-/
import Derived.Test.YtgnhijkjlebcmaaGreatQtyM
set_option linter.all false
set_option maxRecDepth 100000
set_option maxHeartbeats 4000000
namespace Go.M
open Go Go.Proofs
open Go.Eng (SOp SOper SCode sizeP aggP zerosOf bytesP zeroVal stripCode stripOps stripOper strip stripParts kindsOf kinds2)
noncomputable def s8 : SC (Tryz.f8.body.getD .skip) := SC.mk' (by simp only [Tryz.f8, go_sem]; rfl)
noncomputable def fun8 : Fun := ⟨[0, 1, 2, 4, 5, 12, 3], [1, 2, 4], [], 1, s8.1, [.cell 2 true 23, .tmp 3], 195⟩
theorem ok8 : FnM Tryz.prog 8 fun8 := SC.okM s8 rfl (fn := Tryz.f8) (by kernel_rfl) (by kernel_rfl)
noncomputable def s21 : SC (Tryz.f21.body.getD .skip) := SC.mk' (by simp only [Tryz.f21, go_sem]; rfl)
noncomputable def fun21 : Fun := ⟨[0, 4, 2, 9, 5, 6, 47, 3], [2, 4], [], 1, s21.1, [.cell 2 true 4, .tmp 3], 195⟩
theorem ok21 : FnM Tryz.prog 21 fun21 := SC.okM s21 rfl (fn := Tryz.f21) (by kernel_rfl) (by kernel_rfl)
noncomputable def s43 : SC (Tryz.f43.body.getD .skip) := SC.mk' (by simp only [Tryz.f43, go_sem]; rfl)
noncomputable def fun43 : Fun := ⟨[0, 1, 2, 3, 7, 4, 6, 36], [3, 4, 6, 7], [], 3, s43.1, [.cell 6 true 63], 65⟩
theorem ok43 : FnM Tryz.prog 43 fun43 := SC.okM s43 rfl (fn := Tryz.f43) (by kernel_rfl) (by kernel_rfl)
noncomputable def s49 : SC (Tryz.f49.body.getD .skip) := SC.mk' (by simp only [Tryz.f49, go_sem]; rfl)
noncomputable def fun49 : Fun := ⟨[0, 1, 5, 4, 2, 16, 17, 29, 3], [1, 2, 4, 5], [], 1, s49.1, [.cell 2 true 8, .tmp 3], 715⟩
theorem ok49 : FnM Tryz.prog 49 fun49 := SC.okM s49 rfl (fn := Tryz.f49) (by kernel_rfl) (by kernel_rfl)
noncomputable def s51 : SC (Tryz.f51.body.getD .skip) := SC.mk' (by simp only [Tryz.f51, go_sem]; rfl)
noncomputable def fun51 : Fun := ⟨[0, 1, 2, 4, 11, 6, 7, 10, 3, 78, 79, 95, 12, 21, 47, 68, 86, 96, 104, 114, 122, 8, 9], [3, 4, 6, 7, 12], [], 3, s51.1, [.cell 6 true 11, .cell 7 true 63, .tmp 8, .tmp 9], 1300⟩
theorem ok51 : FnM Tryz.prog 51 fun51 := SC.okM s51 rfl (fn := Tryz.f51) (by kernel_rfl) (by kernel_rfl)
noncomputable def s63 : SC (Tryz.f63.body.getD .skip) := SC.mk' (by simp only [Tryz.f63, go_sem]; rfl)
noncomputable def fun63 : Fun := ⟨[0, 2, 4, 5, 12, 3], [2, 4], [], 1, s63.1, [.cell 2 true 8, .tmp 3], 65⟩
theorem ok63 : FnM Tryz.prog 63 fun63 := SC.okM s63 rfl (fn := Tryz.f63) (by kernel_rfl) (by kernel_rfl)
noncomputable def s73 : SC (Tryz.f73.body.getD .skip) := SC.mk' (by simp only [Tryz.f73, go_sem]; rfl)
noncomputable def fun73 : Fun := ⟨[0, 1, 2, 3, 4, 29, 7, 27, 10, 24, 28, 30, 6, 51, 61, 67, 5], [2, 3, 4], [], 2, s73.1, [.cell 4 true 26, .tmp 5], 195⟩
theorem ok73 : FnM Tryz.prog 73 fun73 := SC.okM s73 rfl (fn := Tryz.f73) (by kernel_rfl) (by kernel_rfl)
noncomputable def s107 : SC (Tryz.f107.body.getD .skip) := SC.mk' (by simp only [Tryz.f107, go_sem]; rfl)
noncomputable def fun107 : Fun := ⟨[0, 2, 9, 3], [2], [], 1, s107.1, [.cell 2 true 3, .tmp 3], 0⟩
theorem ok107 : FnM Tryz.prog 107 fun107 := SC.okM s107 rfl (fn := Tryz.f107) (by kernel_rfl) (by kernel_rfl)
noncomputable def s120 : SC (Tryz.f120.body.getD .skip) := SC.mk' (by simp only [Tryz.f120, go_sem]; rfl)
noncomputable def fun120 : Fun := ⟨[0], [0], [], 0, s120.1, [.cell 0 true 4], 0⟩
theorem ok120 : FnM Tryz.prog 120 fun120 := SC.okM s120 rfl (fn := Tryz.f120) (by kernel_rfl) (by kernel_rfl)
noncomputable def s132 : SC (Tryz.f132.body.getD .skip) := SC.mk' (by simp only [Tryz.f132, go_sem]; rfl)
noncomputable def fun132 : Fun := ⟨[0, 1, 6, 7, 8, 3, 4, 5, 13, 19, 31, 43, 49, 55, 61, 81, 85, 96, 2], [1], [], 1, s132.1, [.tmp 2], 390⟩
theorem ok132 : FnM Tryz.prog 132 fun132 := SC.okM s132 rfl (fn := Tryz.f132) (by kernel_rfl) (by kernel_rfl)
noncomputable def s142 : SC (Tryz.f142.body.getD .skip) := SC.mk' (by simp only [Tryz.f142, go_sem]; rfl)
noncomputable def fun142 : Fun := ⟨[0, 1, 2, 4, 5, 3], [1, 2], [], 1, s142.1, [.cell 2 true 8, .tmp 3], 1170⟩
theorem ok142 : FnM Tryz.prog 142 fun142 := SC.okM s142 rfl (fn := Tryz.f142) (by kernel_rfl) (by kernel_rfl)
noncomputable def s163 : SC (Tryz.f163.body.getD .skip) := SC.mk' (by simp only [Tryz.f163, go_sem]; rfl)
noncomputable def fun163 : Fun := ⟨[0, 1, 2, 5, 10, 4], [2], [], 2, s163.1, [.tmp 4], 195⟩
theorem ok163 : FnM Tryz.prog 163 fun163 := SC.okM s163 rfl (fn := Tryz.f163) (by kernel_rfl) (by kernel_rfl)
noncomputable def s184 : SC (Tryz.f184.body.getD .skip) := SC.mk' (by simp only [Tryz.f184, go_sem]; rfl)
noncomputable def fun184 : Fun := ⟨[0, 3, 4, 5, 6, 28, 50, 60, 86, 114, 133, 139, 153, 2], [3], [], 1, s184.1, [.tmp 2], 520⟩
theorem ok184 : FnM Tryz.prog 184 fun184 := SC.okM s184 rfl (fn := Tryz.f184) (by kernel_rfl) (by kernel_rfl)
noncomputable def s187 : SC (Tryz.f187.body.getD .skip) := SC.mk' (by simp only [Tryz.f187, go_sem]; rfl)
noncomputable def fun187 : Fun := ⟨[0, 1, 3, 7, 11, 2], [1], [], 1, s187.1, [.tmp 2], 455⟩
theorem ok187 : FnM Tryz.prog 187 fun187 := SC.okM s187 rfl (fn := Tryz.f187) (by kernel_rfl) (by kernel_rfl)
noncomputable def s208 : SC (Tryz.f208.body.getD .skip) := SC.mk' (by simp only [Tryz.f208, go_sem]; rfl)
noncomputable def fun208 : Fun := ⟨[0, 2], [], [], 1, s208.1, [.tmp 2], 0⟩
theorem ok208 : FnM Tryz.prog 208 fun208 := SC.okM s208 rfl (fn := Tryz.f208) (by kernel_rfl) (by kernel_rfl)
noncomputable def s211 : SC (Tryz.f211.body.getD .skip) := SC.mk' (by simp only [Tryz.f211, go_sem]; rfl)
noncomputable def fun211 : Fun := ⟨[0, 1, 5, 2, 10, 21, 4], [2], [], 2, s211.1, [.tmp 4], 0⟩
theorem ok211 : FnM Tryz.prog 211 fun211 := SC.okM s211 rfl (fn := Tryz.f211) (by kernel_rfl) (by kernel_rfl)
noncomputable def s263 : SC (Tryz.f263.body.getD .skip) := SC.mk' (by simp only [Tryz.f263, go_sem]; rfl)
noncomputable def fun263 : Fun := ⟨[0, 1, 2, 3, 4, 8, 12, 13, 11, 14, 15, 20, 35, 45, 9, 10], [4, 8, 14, 15], [], 4, s263.1, [.cell 8 true 8, .tmp 9, .tmp 10], 520⟩
theorem ok263 : FnM Tryz.prog 263 fun263 := SC.okM s263 rfl (fn := Tryz.f263) (by kernel_rfl) (by kernel_rfl)
noncomputable def s267 : SC (Tryz.f267.body.getD .skip) := SC.mk' (by simp only [Tryz.f267, go_sem]; rfl)
noncomputable def fun267 : Fun := ⟨[0, 1, 2, 4, 6, 7, 10, 3, 20, 11, 30, 38, 8], [3, 4, 6, 7], [], 3, s267.1, [.cell 6 true 11, .cell 7 true 5, .tmp 8], 260⟩
theorem ok267 : FnM Tryz.prog 267 fun267 := SC.okM s267 rfl (fn := Tryz.f267) (by kernel_rfl) (by kernel_rfl)
noncomputable def s274 : SC (Tryz.f274.body.getD .skip) := SC.mk' (by simp only [Tryz.f274, go_sem]; rfl)
noncomputable def fun274 : Fun := ⟨[0, 4, 2], [], [], 1, s274.1, [.tmp 2], 0⟩
theorem ok274 : FnM Tryz.prog 274 fun274 := SC.okM s274 rfl (fn := Tryz.f274) (by kernel_rfl) (by kernel_rfl)
noncomputable def s277 : SC (Tryz.f277.body.getD .skip) := SC.mk' (by simp only [Tryz.f277, go_sem]; rfl)
noncomputable def fun277 : Fun := ⟨[0, 2], [], [], 1, s277.1, [.tmp 2], 0⟩
theorem ok277 : FnM Tryz.prog 277 fun277 := SC.okM s277 rfl (fn := Tryz.f277) (by kernel_rfl) (by kernel_rfl)
noncomputable def s298 : SC (Tryz.f298.body.getD .skip) := SC.mk' (by simp only [Tryz.f298, go_sem]; rfl)
noncomputable def fun298 : Fun := ⟨[0, 1, 2, 4, 14, 20, 3], [1, 2], [], 1, s298.1, [.cell 2 true 4, .tmp 3], 0⟩
theorem ok298 : FnM Tryz.prog 298 fun298 := SC.okM s298 rfl (fn := Tryz.f298) (by kernel_rfl) (by kernel_rfl)
noncomputable def s303 : SC (Tryz.f303.body.getD .skip) := SC.mk' (by simp only [Tryz.f303, go_sem]; rfl)
noncomputable def fun303 : Fun := ⟨[0, 1, 2, 3, 4, 8, 7, 10, 11, 17, 23, 39, 9], [4, 7, 8], [], 4, s303.1, [.cell 8 true 11, .tmp 9], 455⟩
theorem ok303 : FnM Tryz.prog 303 fun303 := SC.okM s303 rfl (fn := Tryz.f303) (by kernel_rfl) (by kernel_rfl)
noncomputable def s309 : SC (Tryz.f309.body.getD .skip) := SC.mk' (by simp only [Tryz.f309, go_sem]; rfl)
noncomputable def fun309 : Fun := ⟨[0, 1, 38, 42, 2], [1], [], 1, s309.1, [.tmp 2], 65⟩
theorem ok309 : FnM Tryz.prog 309 fun309 := SC.okM s309 rfl (fn := Tryz.f309) (by kernel_rfl) (by kernel_rfl)
noncomputable def s311 : SC (Tryz.f311.body.getD .skip) := SC.mk' (by simp only [Tryz.f311, go_sem]; rfl)
noncomputable def fun311 : Fun := ⟨[0, 1, 2], [1], [], 1, s311.1, [.tmp 2], 260⟩
theorem ok311 : FnM Tryz.prog 311 fun311 := SC.okM s311 rfl (fn := Tryz.f311) (by kernel_rfl) (by kernel_rfl)
noncomputable def s313 : SC (Tryz.f313.body.getD .skip) := SC.mk' (by simp only [Tryz.f313, go_sem]; rfl)
noncomputable def fun313 : Fun := ⟨[0, 1, 2, 4, 6, 16, 5], [2, 4], [], 2, s313.1, [.cell 4 true 8, .tmp 5], 195⟩
theorem ok313 : FnM Tryz.prog 313 fun313 := SC.okM s313 rfl (fn := Tryz.f313) (by kernel_rfl) (by kernel_rfl)
noncomputable def s319 : SC (Tryz.f319.body.getD .skip) := SC.mk' (by simp only [Tryz.f319, go_sem]; rfl)
noncomputable def fun319 : Fun := ⟨[0, 1, 2], [1], [], 1, s319.1, [.tmp 2], 0⟩
theorem ok319 : FnM Tryz.prog 319 fun319 := SC.okM s319 rfl (fn := Tryz.f319) (by kernel_rfl) (by kernel_rfl)
noncomputable def s329 : SC (Tryz.f329.body.getD .skip) := SC.mk' (by simp only [Tryz.f329, go_sem]; rfl)
noncomputable def fun329 : Fun := ⟨[0, 1, 8, 5, 7, 9, 16, 4], [], [], 2, s329.1, [.tmp 4], 65⟩
theorem ok329 : FnM Tryz.prog 329 fun329 := SC.okM s329 rfl (fn := Tryz.f329) (by kernel_rfl) (by kernel_rfl)
noncomputable def s366 : SC (Tryz.f366.body.getD .skip) := SC.mk' (by simp only [Tryz.f366, go_sem]; rfl)
noncomputable def fun366 : Fun := ⟨[0, 1, 2, 6, 7, 3, 4, 35, 5], [2, 3, 4], [], 2, s366.1, [.cell 4 true 3, .tmp 5], 195⟩
theorem ok366 : FnM Tryz.prog 366 fun366 := SC.okM s366 rfl (fn := Tryz.f366) (by kernel_rfl) (by kernel_rfl)
noncomputable def s392 : SC (Tryz.f392.body.getD .skip) := SC.mk' (by simp only [Tryz.f392, go_sem]; rfl)
noncomputable def fun392 : Fun := ⟨[0, 1, 2, 4], [2], [], 2, s392.1, [.tmp 4], 0⟩
theorem ok392 : FnM Tryz.prog 392 fun392 := SC.okM s392 rfl (fn := Tryz.f392) (by kernel_rfl) (by kernel_rfl)
noncomputable def s396 : SC (Tryz.f396.body.getD .skip) := SC.mk' (by simp only [Tryz.f396, go_sem]; rfl)
noncomputable def fun396 : Fun := ⟨[0, 1, 2, 4, 5], [2], [], 2, s396.1, [.tmp 4, .tmp 5], 260⟩
theorem ok396 : FnM Tryz.prog 396 fun396 := SC.okM s396 rfl (fn := Tryz.f396) (by kernel_rfl) (by kernel_rfl)
noncomputable def s407 : SC (Tryz.f407.body.getD .skip) := SC.mk' (by simp only [Tryz.f407, go_sem]; rfl)
noncomputable def fun407 : Fun := ⟨[0, 1, 5, 21, 4], [], [], 2, s407.1, [.tmp 4], 195⟩
theorem ok407 : FnM Tryz.prog 407 fun407 := SC.okM s407 rfl (fn := Tryz.f407) (by kernel_rfl) (by kernel_rfl)
noncomputable def s414 : SC (Tryz.f414.body.getD .skip) := SC.mk' (by simp only [Tryz.f414, go_sem]; rfl)
noncomputable def fun414 : Fun := ⟨[0, 1, 2, 16, 7, 6], [], [], 3, s414.1, [.tmp 6], 0⟩
theorem ok414 : FnM Tryz.prog 414 fun414 := SC.okM s414 rfl (fn := Tryz.f414) (by kernel_rfl) (by kernel_rfl)
noncomputable def s415 : SC (Tryz.f415.body.getD .skip) := SC.mk' (by simp only [Tryz.f415, go_sem]; rfl)
noncomputable def fun415 : Fun := ⟨[0, 13, 5, 11, 4, 8, 10, 12, 14, 3, 23, 28, 36, 2], [4], [], 1, s415.1, [.tmp 2], 260⟩
theorem ok415 : FnM Tryz.prog 415 fun415 := SC.okM s415 rfl (fn := Tryz.f415) (by kernel_rfl) (by kernel_rfl)
noncomputable def s437 : SC (Tryz.f437.body.getD .skip) := SC.mk' (by simp only [Tryz.f437, go_sem]; rfl)
noncomputable def fun437 : Fun := ⟨[0, 1, 4], [], [], 2, s437.1, [.tmp 4], 195⟩
theorem ok437 : FnM Tryz.prog 437 fun437 := SC.okM s437 rfl (fn := Tryz.f437) (by kernel_rfl) (by kernel_rfl)
noncomputable def s453 : SC (Tryz.f453.body.getD .skip) := SC.mk' (by simp only [Tryz.f453, go_sem]; rfl)
noncomputable def fun453 : Fun := ⟨[0, 1, 8, 5, 3, 7, 9, 16, 4], [3], [], 2, s453.1, [.tmp 4], 0⟩
theorem ok453 : FnM Tryz.prog 453 fun453 := SC.okM s453 rfl (fn := Tryz.f453) (by kernel_rfl) (by kernel_rfl)
end Go.M
