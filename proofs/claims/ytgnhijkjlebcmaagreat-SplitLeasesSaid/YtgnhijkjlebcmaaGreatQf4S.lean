/-
  The codes of functions, as the machine takes them.
  No condition: definitions and lemmas.
-/
import Derived.Test.YtgnhijkjlebcmaaGreatQtyS
set_option linter.all false
set_option maxRecDepth 100000
set_option maxHeartbeats 4000000
namespace Go.M
open Go Go.Proofs
open Go.Eng (SOp SOper SCode sizeP aggP zerosOf bytesP zeroVal stripCode stripOps stripOper strip stripParts kindsOf kinds2)
noncomputable def s9 : SC (Tryz.f9.body.getD .skip) := SC.mk' (by simp only [Tryz.f9, go_sem]; rfl)
noncomputable def fun9 : Fun := ⟨[0, 1, 2, 6], [], [], 3, s9.1, [.tmp 6], 0⟩
theorem ok9 : FnM Tryz.prog 9 fun9 := SC.okM s9 rfl (fn := Tryz.f9) (by kernel_rfl) (by kernel_rfl)
noncomputable def s15 : SC (Tryz.f15.body.getD .skip) := SC.mk' (by simp only [Tryz.f15, go_sem]; rfl)
noncomputable def fun15 : Fun := ⟨[0, 1, 2, 4, 6, 7, 3, 14, 20, 11, 13, 10, 32, 17, 18, 24, 33, 12, 47, 71, 79, 15, 16, 99, 106, 19, 116, 128, 141, 8, 9], [3, 4, 6, 7, 11, 13, 14, 18, 20], [], 3, s15.1, [.cell 6 true 11, .cell 7 true 63, .tmp 8, .tmp 9], 910⟩
theorem ok15 : FnM Tryz.prog 15 fun15 := SC.okM s15 rfl (fn := Tryz.f15) (by kernel_rfl) (by kernel_rfl)
noncomputable def s32 : SC (Tryz.f32.body.getD .skip) := SC.mk' (by simp only [Tryz.f32, go_sem]; rfl)
noncomputable def fun32 : Fun := ⟨[0, 1, 6, 7, 4, 8, 2, 57, 78, 90, 3], [1, 2, 4, 6, 8], [], 1, s32.1, [.cell 2 true 11, .tmp 3], 130⟩
theorem ok32 : FnM Tryz.prog 32 fun32 := SC.okM s32 rfl (fn := Tryz.f32) (by kernel_rfl) (by kernel_rfl)
noncomputable def s34 : SC (Tryz.f34.body.getD .skip) := SC.mk' (by simp only [Tryz.f34, go_sem]; rfl)
noncomputable def fun34 : Fun := ⟨[0, 4, 1, 6, 7, 8, 3, 5, 19, 2], [1, 8], [], 1, s34.1, [.tmp 2], 65⟩
theorem ok34 : FnM Tryz.prog 34 fun34 := SC.okM s34 rfl (fn := Tryz.f34) (by kernel_rfl) (by kernel_rfl)
noncomputable def s45 : SC (Tryz.f45.body.getD .skip) := SC.mk' (by simp only [Tryz.f45, go_sem]; rfl)
noncomputable def fun45 : Fun := ⟨[0, 1, 2, 3, 5, 4, 8], [4, 5, 8], [], 4, s45.1, [.cell 8 true 63], 195⟩
theorem ok45 : FnM Tryz.prog 45 fun45 := SC.okM s45 rfl (fn := Tryz.f45) (by kernel_rfl) (by kernel_rfl)
noncomputable def s52 : SC (Tryz.f52.body.getD .skip) := SC.mk' (by simp only [Tryz.f52, go_sem]; rfl)
noncomputable def fun52 : Fun := ⟨[0, 1, 2, 9, 8, 19, 31, 34, 6, 7], [], [], 3, s52.1, [.tmp 6, .tmp 7], 0⟩
theorem ok52 : FnM Tryz.prog 52 fun52 := SC.okM s52 rfl (fn := Tryz.f52) (by kernel_rfl) (by kernel_rfl)
noncomputable def s62 : SC (Tryz.f62.body.getD .skip) := SC.mk' (by simp only [Tryz.f62, go_sem]; rfl)
noncomputable def fun62 : Fun := ⟨[0, 1, 6, 7, 4, 8, 19, 24, 46, 5], [4, 6], [], 2, s62.1, [.cell 4 true 3, .tmp 5], 0⟩
theorem ok62 : FnM Tryz.prog 62 fun62 := SC.okM s62 rfl (fn := Tryz.f62) (by kernel_rfl) (by kernel_rfl)
noncomputable def s78 : SC (Tryz.f78.body.getD .skip) := SC.mk' (by simp only [Tryz.f78, go_sem]; rfl)
noncomputable def fun78 : Fun := ⟨[0, 1, 2, 3, 8, 9, 11, 12, 13, 4, 5, 24, 10], [4, 5, 8, 9, 11, 12], [], 4, s78.1, [.cell 8 true 11, .cell 9 true 26, .tmp 10], 780⟩
theorem ok78 : FnM Tryz.prog 78 fun78 := SC.okM s78 rfl (fn := Tryz.f78) (by kernel_rfl) (by kernel_rfl)
noncomputable def s80 : SC (Tryz.f80.body.getD .skip) := SC.mk' (by simp only [Tryz.f80, go_sem]; rfl)
noncomputable def fun80 : Fun := ⟨[0, 1, 2, 3, 4], [2, 3, 4], [], 2, s80.1, [.cell 4 true 63], 260⟩
theorem ok80 : FnM Tryz.prog 80 fun80 := SC.okM s80 rfl (fn := Tryz.f80) (by kernel_rfl) (by kernel_rfl)
noncomputable def s135 : SC (Tryz.f135.body.getD .skip) := SC.mk' (by simp only [Tryz.f135, go_sem]; rfl)
noncomputable def fun135 : Fun := ⟨[0, 2], [], [], 1, s135.1, [.tmp 2], 0⟩
theorem ok135 : FnM Tryz.prog 135 fun135 := SC.okM s135 rfl (fn := Tryz.f135) (by kernel_rfl) (by kernel_rfl)
noncomputable def s136 : SC (Tryz.f136.body.getD .skip) := SC.mk' (by simp only [Tryz.f136, go_sem]; rfl)
noncomputable def fun136 : Fun := ⟨[0, 1, 2, 4], [2], [], 2, s136.1, [.tmp 4], 0⟩
theorem ok136 : FnM Tryz.prog 136 fun136 := SC.okM s136 rfl (fn := Tryz.f136) (by kernel_rfl) (by kernel_rfl)
noncomputable def s137 : SC (Tryz.f137.body.getD .skip) := SC.mk' (by simp only [Tryz.f137, go_sem]; rfl)
noncomputable def fun137 : Fun := ⟨[0, 1, 2, 3, 4, 6, 11, 5], [2, 3, 4], [], 2, s137.1, [.cell 4 true 3, .tmp 5], 260⟩
theorem ok137 : FnM Tryz.prog 137 fun137 := SC.okM s137 rfl (fn := Tryz.f137) (by kernel_rfl) (by kernel_rfl)
noncomputable def s161 : SC (Tryz.f161.body.getD .skip) := SC.mk' (by simp only [Tryz.f161, go_sem]; rfl)
noncomputable def fun161 : Fun := ⟨[0, 5, 11, 3, 2], [], [], 1, s161.1, [.tmp 2], 65⟩
theorem ok161 : FnM Tryz.prog 161 fun161 := SC.okM s161 rfl (fn := Tryz.f161) (by kernel_rfl) (by kernel_rfl)
noncomputable def s187 : SC (Tryz.f187.body.getD .skip) := SC.mk' (by simp only [Tryz.f187, go_sem]; rfl)
noncomputable def fun187 : Fun := ⟨[0, 1, 3, 7, 11, 2], [1], [], 1, s187.1, [.tmp 2], 455⟩
theorem ok187 : FnM Tryz.prog 187 fun187 := SC.okM s187 rfl (fn := Tryz.f187) (by kernel_rfl) (by kernel_rfl)
noncomputable def s191 : SC (Tryz.f191.body.getD .skip) := SC.mk' (by simp only [Tryz.f191, go_sem]; rfl)
noncomputable def fun191 : Fun := ⟨[0, 1, 2, 4, 5, 13, 3], [1, 2, 4], [], 1, s191.1, [.cell 2 true 26, .tmp 3], 65⟩
theorem ok191 : FnM Tryz.prog 191 fun191 := SC.okM s191 rfl (fn := Tryz.f191) (by kernel_rfl) (by kernel_rfl)
noncomputable def s193 : SC (Tryz.f193.body.getD .skip) := SC.mk' (by simp only [Tryz.f193, go_sem]; rfl)
noncomputable def fun193 : Fun := ⟨[0, 4, 1, 10, 5, 2], [1], [], 1, s193.1, [.tmp 2], 0⟩
theorem ok193 : FnM Tryz.prog 193 fun193 := SC.okM s193 rfl (fn := Tryz.f193) (by kernel_rfl) (by kernel_rfl)
noncomputable def s202 : SC (Tryz.f202.body.getD .skip) := SC.mk' (by simp only [Tryz.f202, go_sem]; rfl)
noncomputable def fun202 : Fun := ⟨[0, 1, 2, 4, 3, 9, 12, 6, 7, 10, 11, 22, 45, 63, 76, 8], [3, 4, 6, 7, 10, 11], [], 3, s202.1, [.cell 6 true 11, .cell 7 true 26, .tmp 8], 650⟩
theorem ok202 : FnM Tryz.prog 202 fun202 := SC.okM s202 rfl (fn := Tryz.f202) (by kernel_rfl) (by kernel_rfl)
noncomputable def s205 : SC (Tryz.f205.body.getD .skip) := SC.mk' (by simp only [Tryz.f205, go_sem]; rfl)
noncomputable def fun205 : Fun := ⟨[0, 1, 4, 3, 7, 5, 6, 8, 12, 17, 29, 31, 36, 45, 66, 74, 79, 106, 2], [1, 4], [], 1, s205.1, [.tmp 2], 130⟩
theorem ok205 : FnM Tryz.prog 205 fun205 := SC.okM s205 rfl (fn := Tryz.f205) (by kernel_rfl) (by kernel_rfl)
noncomputable def s216 : SC (Tryz.f216.body.getD .skip) := SC.mk' (by simp only [Tryz.f216, go_sem]; rfl)
noncomputable def fun216 : Fun := ⟨[0, 1, 3, 6, 10, 12, 16, 20, 4, 5], [3], [], 2, s216.1, [.tmp 4, .tmp 5], 130⟩
theorem ok216 : FnM Tryz.prog 216 fun216 := SC.okM s216 rfl (fn := Tryz.f216) (by kernel_rfl) (by kernel_rfl)
noncomputable def s218 : SC (Tryz.f218.body.getD .skip) := SC.mk' (by simp only [Tryz.f218, go_sem]; rfl)
noncomputable def fun218 : Fun := ⟨[0, 2, 9, 3], [2], [], 1, s218.1, [.cell 2 true 3, .tmp 3], 0⟩
theorem ok218 : FnM Tryz.prog 218 fun218 := SC.okM s218 rfl (fn := Tryz.f218) (by kernel_rfl) (by kernel_rfl)
noncomputable def s222 : SC (Tryz.f222.body.getD .skip) := SC.mk' (by simp only [Tryz.f222, go_sem]; rfl)
noncomputable def fun222 : Fun := ⟨[0, 5, 8, 3, 6, 7, 9, 27, 2], [5], [], 1, s222.1, [.tmp 2], 0⟩
theorem ok222 : FnM Tryz.prog 222 fun222 := SC.okM s222 rfl (fn := Tryz.f222) (by kernel_rfl) (by kernel_rfl)
noncomputable def s223 : SC (Tryz.f223.body.getD .skip) := SC.mk' (by simp only [Tryz.f223, go_sem]; rfl)
noncomputable def fun223 : Fun := ⟨[0, 1, 4], [], [], 2, s223.1, [.tmp 4], 130⟩
theorem ok223 : FnM Tryz.prog 223 fun223 := SC.okM s223 rfl (fn := Tryz.f223) (by kernel_rfl) (by kernel_rfl)
noncomputable def s283 : SC (Tryz.f283.body.getD .skip) := SC.mk' (by simp only [Tryz.f283, go_sem]; rfl)
noncomputable def fun283 : Fun := ⟨[0, 1, 2, 3, 8, 11, 4, 5, 10, 12, 18, 27, 43, 9], [4, 5, 8, 11], [], 4, s283.1, [.cell 8 true 4, .tmp 9], 650⟩
theorem ok283 : FnM Tryz.prog 283 fun283 := SC.okM s283 rfl (fn := Tryz.f283) (by kernel_rfl) (by kernel_rfl)
noncomputable def s290 : SC (Tryz.f290.body.getD .skip) := SC.mk' (by simp only [Tryz.f290, go_sem]; rfl)
noncomputable def fun290 : Fun := ⟨[0, 1, 5, 6, 7, 12, 19, 29, 4], [7], [], 2, s290.1, [.tmp 4], 260⟩
theorem ok290 : FnM Tryz.prog 290 fun290 := SC.okM s290 rfl (fn := Tryz.f290) (by kernel_rfl) (by kernel_rfl)
noncomputable def s303 : SC (Tryz.f303.body.getD .skip) := SC.mk' (by simp only [Tryz.f303, go_sem]; rfl)
noncomputable def fun303 : Fun := ⟨[0, 1, 2, 3, 4, 8, 7, 10, 11, 17, 23, 39, 9], [4, 7, 8], [], 4, s303.1, [.cell 8 true 11, .tmp 9], 455⟩
theorem ok303 : FnM Tryz.prog 303 fun303 := SC.okM s303 rfl (fn := Tryz.f303) (by kernel_rfl) (by kernel_rfl)
noncomputable def s325 : SC (Tryz.f325.body.getD .skip) := SC.mk' (by simp only [Tryz.f325, go_sem]; rfl)
noncomputable def fun325 : Fun := ⟨[0, 1, 2], [1, 2], [], 1, s325.1, [.cell 2 true 8], 65⟩
theorem ok325 : FnM Tryz.prog 325 fun325 := SC.okM s325 rfl (fn := Tryz.f325) (by kernel_rfl) (by kernel_rfl)
noncomputable def s352 : SC (Tryz.f352.body.getD .skip) := SC.mk' (by simp only [Tryz.f352, go_sem]; rfl)
noncomputable def fun352 : Fun := ⟨[0, 1, 2, 4, 3, 6, 7, 9, 20, 37, 54, 58, 8], [3, 4, 6, 7], [], 3, s352.1, [.cell 6 true 11, .cell 7 true 5, .tmp 8], 195⟩
theorem ok352 : FnM Tryz.prog 352 fun352 := SC.okM s352 rfl (fn := Tryz.f352) (by kernel_rfl) (by kernel_rfl)
noncomputable def s359 : SC (Tryz.f359.body.getD .skip) := SC.mk' (by simp only [Tryz.f359, go_sem]; rfl)
noncomputable def fun359 : Fun := ⟨[0, 1, 2, 6, 7, 11, 15, 4, 5], [2], [], 2, s359.1, [.tmp 4, .tmp 5], 0⟩
theorem ok359 : FnM Tryz.prog 359 fun359 := SC.okM s359 rfl (fn := Tryz.f359) (by kernel_rfl) (by kernel_rfl)
noncomputable def s364 : SC (Tryz.f364.body.getD .skip) := SC.mk' (by simp only [Tryz.f364, go_sem]; rfl)
noncomputable def fun364 : Fun := ⟨[0, 4, 2], [], [], 1, s364.1, [.tmp 2], 0⟩
theorem ok364 : FnM Tryz.prog 364 fun364 := SC.okM s364 rfl (fn := Tryz.f364) (by kernel_rfl) (by kernel_rfl)
noncomputable def s371 : SC (Tryz.f371.body.getD .skip) := SC.mk' (by simp only [Tryz.f371, go_sem]; rfl)
noncomputable def fun371 : Fun := ⟨[0, 1, 8, 5, 7, 9, 16, 4], [], [], 2, s371.1, [.tmp 4], 776⟩
theorem ok371 : FnM Tryz.prog 371 fun371 := SC.okM s371 rfl (fn := Tryz.f371) (by kernel_rfl) (by kernel_rfl)
noncomputable def s380 : SC (Tryz.f380.body.getD .skip) := SC.mk' (by simp only [Tryz.f380, go_sem]; rfl)
noncomputable def fun380 : Fun := ⟨[0, 1, 2, 6, 3], [1, 2], [], 1, s380.1, [.cell 2 true 5, .tmp 3], 0⟩
theorem ok380 : FnM Tryz.prog 380 fun380 := SC.okM s380 rfl (fn := Tryz.f380) (by kernel_rfl) (by kernel_rfl)
noncomputable def s383 : SC (Tryz.f383.body.getD .skip) := SC.mk' (by simp only [Tryz.f383, go_sem]; rfl)
noncomputable def fun383 : Fun := ⟨[0, 1, 5, 2], [1], [], 1, s383.1, [.tmp 2], 195⟩
theorem ok383 : FnM Tryz.prog 383 fun383 := SC.okM s383 rfl (fn := Tryz.f383) (by kernel_rfl) (by kernel_rfl)
noncomputable def s417 : SC (Tryz.f417.body.getD .skip) := SC.mk' (by simp only [Tryz.f417, go_sem]; rfl)
noncomputable def fun417 : Fun := ⟨[0, 1, 2, 7, 8, 9, 16, 22, 31, 68, 6], [], [], 3, s417.1, [.tmp 6], 0⟩
theorem ok417 : FnM Tryz.prog 417 fun417 := SC.okM s417 rfl (fn := Tryz.f417) (by kernel_rfl) (by kernel_rfl)
noncomputable def s423 : SC (Tryz.f423.body.getD .skip) := SC.mk' (by simp only [Tryz.f423, go_sem]; rfl)
noncomputable def fun423 : Fun := ⟨[0, 1, 2, 4], [2], [], 2, s423.1, [.tmp 4], 130⟩
theorem ok423 : FnM Tryz.prog 423 fun423 := SC.okM s423 rfl (fn := Tryz.f423) (by kernel_rfl) (by kernel_rfl)
noncomputable def s445 : SC (Tryz.f445.body.getD .skip) := SC.mk' (by simp only [Tryz.f445, go_sem]; rfl)
noncomputable def fun445 : Fun := ⟨[0, 2], [], [], 1, s445.1, [.tmp 2], 0⟩
theorem ok445 : FnM Tryz.prog 445 fun445 := SC.okM s445 rfl (fn := Tryz.f445) (by kernel_rfl) (by kernel_rfl)
end Go.M
