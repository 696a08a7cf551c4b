/-
  The codes of functions, as the machine takes them.
  No condition: definitions and lemmas.
-/
import Derived.Test.YtgnhijkjlebcmaaGreatQtyO
set_option linter.all false
set_option maxRecDepth 100000
set_option maxHeartbeats 4000000
namespace Go.M
open Go Go.Proofs
open Go.Eng (SOp SOper SCode sizeP aggP zerosOf bytesP zeroVal stripCode stripOps stripOper strip stripParts kindsOf kinds2)
noncomputable def s14 : SC (Tryz.f14.body.getD .skip) := SC.mk' (by simp only [Tryz.f14, go_sem]; rfl)
noncomputable def fun14 : Fun := ⟨[0, 1, 2, 3, 8, 6, 5, 11, 12, 22, 30, 37, 9], [5, 6, 8, 10], [], 4, s14.1, [.cell 8 true 63, .tmp 9], 195⟩
theorem ok14 : FnM Tryz.prog 14 fun14 := SC.okM s14 rfl (fn := Tryz.f14) (by kernel_rfl) (by kernel_rfl)
noncomputable def s31 : SC (Tryz.f31.body.getD .skip) := SC.mk' (by simp only [Tryz.f31, go_sem]; rfl)
noncomputable def fun31 : Fun := ⟨[4, 1, 3, 5, 0], [1, 2], [], 0, s31.1, [.tmp 0], 1430⟩
theorem ok31 : FnM Tryz.prog 31 fun31 := SC.okM s31 rfl (fn := Tryz.f31) (by kernel_rfl) (by kernel_rfl)
noncomputable def s39 : SC (Tryz.f39.body.getD .skip) := SC.mk' (by simp only [Tryz.f39, go_sem]; rfl)
noncomputable def fun39 : Fun := ⟨[0, 1, 2, 3, 8, 20, 6], [3], [], 3, s39.1, [.tmp 6], 0⟩
theorem ok39 : FnM Tryz.prog 39 fun39 := SC.okM s39 rfl (fn := Tryz.f39) (by kernel_rfl) (by kernel_rfl)
noncomputable def s61 : SC (Tryz.f61.body.getD .skip) := SC.mk' (by simp only [Tryz.f61, go_sem]; rfl)
noncomputable def fun61 : Fun := ⟨[0, 1, 2, 6], [], [], 3, s61.1, [.tmp 6], 0⟩
theorem ok61 : FnM Tryz.prog 61 fun61 := SC.okM s61 rfl (fn := Tryz.f61) (by kernel_rfl) (by kernel_rfl)
noncomputable def s66 : SC (Tryz.f66.body.getD .skip) := SC.mk' (by simp only [Tryz.f66, go_sem]; rfl)
noncomputable def fun66 : Fun := ⟨[0, 4, 1, 10, 5, 2], [1], [], 1, s66.1, [.tmp 2], 0⟩
theorem ok66 : FnM Tryz.prog 66 fun66 := SC.okM s66 rfl (fn := Tryz.f66) (by kernel_rfl) (by kernel_rfl)
noncomputable def s95 : SC (Tryz.f95.body.getD .skip) := SC.mk' (by simp only [Tryz.f95, go_sem]; rfl)
noncomputable def fun95 : Fun := ⟨[0, 1, 2], [1, 2], [], 1, s95.1, [.cell 2 true 3], 0⟩
theorem ok95 : FnM Tryz.prog 95 fun95 := SC.okM s95 rfl (fn := Tryz.f95) (by kernel_rfl) (by kernel_rfl)
noncomputable def s128 : SC (Tryz.f128.body.getD .skip) := SC.mk' (by simp only [Tryz.f128, go_sem]; rfl)
noncomputable def fun128 : Fun := ⟨[0, 1, 2, 3, 7, 4, 6, 36], [3, 4, 6, 7], [], 3, s128.1, [.cell 6 true 63], 65⟩
theorem ok128 : FnM Tryz.prog 128 fun128 := SC.okM s128 rfl (fn := Tryz.f128) (by kernel_rfl) (by kernel_rfl)
noncomputable def s130 : SC (Tryz.f130.body.getD .skip) := SC.mk' (by simp only [Tryz.f130, go_sem]; rfl)
noncomputable def fun130 : Fun := ⟨[0, 1, 2, 3, 5, 4, 8, 9, 20, 12, 14, 17, 11, 13, 15, 16, 18, 21, 40, 46, 52, 61, 69, 87, 93, 102, 110, 119, 138, 10], [4, 5, 8, 9, 11, 12, 14, 16, 17], [], 4, s130.1, [.cell 8 true 11, .cell 9 true 26, .tmp 10], 715⟩
theorem ok130 : FnM Tryz.prog 130 fun130 := SC.okM s130 rfl (fn := Tryz.f130) (by kernel_rfl) (by kernel_rfl)
noncomputable def s154 : SC (Tryz.f154.body.getD .skip) := SC.mk' (by simp only [Tryz.f154, go_sem]; rfl)
noncomputable def fun154 : Fun := ⟨[0, 1, 2, 4, 6, 9, 16, 5], [2, 4], [], 2, s154.1, [.cell 4 true 3, .tmp 5], 325⟩
theorem ok154 : FnM Tryz.prog 154 fun154 := SC.okM s154 rfl (fn := Tryz.f154) (by kernel_rfl) (by kernel_rfl)
noncomputable def s162 : SC (Tryz.f162.body.getD .skip) := SC.mk' (by simp only [Tryz.f162, go_sem]; rfl)
noncomputable def fun162 : Fun := ⟨[0, 1, 4, 5, 6, 2, 7, 9, 25, 37, 52, 3], [1, 2, 4, 5, 6, 7, 9], [73, 78], 1, s162.1, [.cell 2 true 63, .tmp 3], 650⟩
theorem ok162 : FnM Tryz.prog 162 fun162 := SC.okM s162 rfl (fn := Tryz.f162) (by kernel_rfl) (by kernel_rfl)
noncomputable def s180 : SC (Tryz.f180.body.getD .skip) := SC.mk' (by simp only [Tryz.f180, go_sem]; rfl)
noncomputable def fun180 : Fun := ⟨[0, 3, 30, 32, 47, 57, 2], [], [], 1, s180.1, [.tmp 2], 585⟩
theorem ok180 : FnM Tryz.prog 180 fun180 := SC.okM s180 rfl (fn := Tryz.f180) (by kernel_rfl) (by kernel_rfl)
noncomputable def s182 : SC (Tryz.f182.body.getD .skip) := SC.mk' (by simp only [Tryz.f182, go_sem]; rfl)
noncomputable def fun182 : Fun := ⟨[0, 3, 4, 5, 6, 28, 44, 64, 95, 2], [5], [], 1, s182.1, [.tmp 2], 130⟩
theorem ok182 : FnM Tryz.prog 182 fun182 := SC.okM s182 rfl (fn := Tryz.f182) (by kernel_rfl) (by kernel_rfl)
noncomputable def s192 : SC (Tryz.f192.body.getD .skip) := SC.mk' (by simp only [Tryz.f192, go_sem]; rfl)
noncomputable def fun192 : Fun := ⟨[0, 2], [], [], 1, s192.1, [.tmp 2], 0⟩
theorem ok192 : FnM Tryz.prog 192 fun192 := SC.okM s192 rfl (fn := Tryz.f192) (by kernel_rfl) (by kernel_rfl)
noncomputable def s199 : SC (Tryz.f199.body.getD .skip) := SC.mk' (by simp only [Tryz.f199, go_sem]; rfl)
noncomputable def fun199 : Fun := ⟨[0, 1, 2, 4, 23, 6, 8, 3, 10, 25, 30, 37, 42, 47, 7], [3, 4, 6], [], 3, s199.1, [.cell 6 true 4, .tmp 7], 65⟩
theorem ok199 : FnM Tryz.prog 199 fun199 := SC.okM s199 rfl (fn := Tryz.f199) (by kernel_rfl) (by kernel_rfl)
noncomputable def s203 : SC (Tryz.f203.body.getD .skip) := SC.mk' (by simp only [Tryz.f203, go_sem]; rfl)
noncomputable def fun203 : Fun := ⟨[0, 1, 3, 2, 4, 5, 11, 7, 6], [2, 3, 4, 5], [], 2, s203.1, [.cell 4 true 11, .cell 5 true 26, .tmp 6], 130⟩
theorem ok203 : FnM Tryz.prog 203 fun203 := SC.okM s203 rfl (fn := Tryz.f203) (by kernel_rfl) (by kernel_rfl)
noncomputable def s220 : SC (Tryz.f220.body.getD .skip) := SC.mk' (by simp only [Tryz.f220, go_sem]; rfl)
noncomputable def fun220 : Fun := ⟨[0, 1, 4, 44, 6, 28, 43, 45, 2, 3], [1, 6], [], 1, s220.1, [.tmp 2, .tmp 3], 130⟩
theorem ok220 : FnM Tryz.prog 220 fun220 := SC.okM s220 rfl (fn := Tryz.f220) (by kernel_rfl) (by kernel_rfl)
noncomputable def s223 : SC (Tryz.f223.body.getD .skip) := SC.mk' (by simp only [Tryz.f223, go_sem]; rfl)
noncomputable def fun223 : Fun := ⟨[0, 1, 4], [], [], 2, s223.1, [.tmp 4], 130⟩
theorem ok223 : FnM Tryz.prog 223 fun223 := SC.okM s223 rfl (fn := Tryz.f223) (by kernel_rfl) (by kernel_rfl)
noncomputable def s239 : SC (Tryz.f239.body.getD .skip) := SC.mk' (by simp only [Tryz.f239, go_sem]; rfl)
noncomputable def fun239 : Fun := ⟨[0, 1, 2, 25, 33, 6], [], [], 3, s239.1, [.tmp 6], 0⟩
theorem ok239 : FnM Tryz.prog 239 fun239 := SC.okM s239 rfl (fn := Tryz.f239) (by kernel_rfl) (by kernel_rfl)
noncomputable def s267 : SC (Tryz.f267.body.getD .skip) := SC.mk' (by simp only [Tryz.f267, go_sem]; rfl)
noncomputable def fun267 : Fun := ⟨[0, 1, 2, 4, 6, 7, 10, 3, 20, 11, 30, 38, 8], [3, 4, 6, 7], [], 3, s267.1, [.cell 6 true 11, .cell 7 true 5, .tmp 8], 260⟩
theorem ok267 : FnM Tryz.prog 267 fun267 := SC.okM s267 rfl (fn := Tryz.f267) (by kernel_rfl) (by kernel_rfl)
noncomputable def s268 : SC (Tryz.f268.body.getD .skip) := SC.mk' (by simp only [Tryz.f268, go_sem]; rfl)
noncomputable def fun268 : Fun := ⟨[0, 1, 2], [], [], 1, s268.1, [.tmp 2], 520⟩
theorem ok268 : FnM Tryz.prog 268 fun268 := SC.okM s268 rfl (fn := Tryz.f268) (by kernel_rfl) (by kernel_rfl)
noncomputable def s291 : SC (Tryz.f291.body.getD .skip) := SC.mk' (by simp only [Tryz.f291, go_sem]; rfl)
noncomputable def fun291 : Fun := ⟨[0, 4, 2], [], [], 1, s291.1, [.tmp 2], 0⟩
theorem ok291 : FnM Tryz.prog 291 fun291 := SC.okM s291 rfl (fn := Tryz.f291) (by kernel_rfl) (by kernel_rfl)
noncomputable def s298 : SC (Tryz.f298.body.getD .skip) := SC.mk' (by simp only [Tryz.f298, go_sem]; rfl)
noncomputable def fun298 : Fun := ⟨[0, 1, 2, 4, 14, 20, 3], [1, 2], [], 1, s298.1, [.cell 2 true 4, .tmp 3], 0⟩
theorem ok298 : FnM Tryz.prog 298 fun298 := SC.okM s298 rfl (fn := Tryz.f298) (by kernel_rfl) (by kernel_rfl)
noncomputable def s299 : SC (Tryz.f299.body.getD .skip) := SC.mk' (by simp only [Tryz.f299, go_sem]; rfl)
noncomputable def fun299 : Fun := ⟨[0, 1, 2, 3, 4, 7, 8, 10, 16, 40, 9], [4, 7, 8], [], 4, s299.1, [.cell 8 true 11, .tmp 9], 130⟩
theorem ok299 : FnM Tryz.prog 299 fun299 := SC.okM s299 rfl (fn := Tryz.f299) (by kernel_rfl) (by kernel_rfl)
noncomputable def s314 : SC (Tryz.f314.body.getD .skip) := SC.mk' (by simp only [Tryz.f314, go_sem]; rfl)
noncomputable def fun314 : Fun := ⟨[0, 1, 2, 4], [2], [], 2, s314.1, [.tmp 4], 0⟩
theorem ok314 : FnM Tryz.prog 314 fun314 := SC.okM s314 rfl (fn := Tryz.f314) (by kernel_rfl) (by kernel_rfl)
noncomputable def s325 : SC (Tryz.f325.body.getD .skip) := SC.mk' (by simp only [Tryz.f325, go_sem]; rfl)
noncomputable def fun325 : Fun := ⟨[0, 1, 2], [1, 2], [], 1, s325.1, [.cell 2 true 8], 65⟩
theorem ok325 : FnM Tryz.prog 325 fun325 := SC.okM s325 rfl (fn := Tryz.f325) (by kernel_rfl) (by kernel_rfl)
noncomputable def s329 : SC (Tryz.f329.body.getD .skip) := SC.mk' (by simp only [Tryz.f329, go_sem]; rfl)
noncomputable def fun329 : Fun := ⟨[0, 1, 8, 5, 7, 9, 16, 4], [], [], 2, s329.1, [.tmp 4], 65⟩
theorem ok329 : FnM Tryz.prog 329 fun329 := SC.okM s329 rfl (fn := Tryz.f329) (by kernel_rfl) (by kernel_rfl)
noncomputable def s336 : SC (Tryz.f336.body.getD .skip) := SC.mk' (by simp only [Tryz.f336, go_sem]; rfl)
noncomputable def fun336 : Fun := ⟨[0, 2], [], [], 1, s336.1, [.tmp 2], 65⟩
theorem ok336 : FnM Tryz.prog 336 fun336 := SC.okM s336 rfl (fn := Tryz.f336) (by kernel_rfl) (by kernel_rfl)
noncomputable def s355 : SC (Tryz.f355.body.getD .skip) := SC.mk' (by simp only [Tryz.f355, go_sem]; rfl)
noncomputable def fun355 : Fun := ⟨[0, 2], [], [], 1, s355.1, [.tmp 2], 0⟩
theorem ok355 : FnM Tryz.prog 355 fun355 := SC.okM s355 rfl (fn := Tryz.f355) (by kernel_rfl) (by kernel_rfl)
noncomputable def s357 : SC (Tryz.f357.body.getD .skip) := SC.mk' (by simp only [Tryz.f357, go_sem]; rfl)
noncomputable def fun357 : Fun := ⟨[0, 1, 2, 6], [], [], 3, s357.1, [.tmp 6], 0⟩
theorem ok357 : FnM Tryz.prog 357 fun357 := SC.okM s357 rfl (fn := Tryz.f357) (by kernel_rfl) (by kernel_rfl)
noncomputable def s359 : SC (Tryz.f359.body.getD .skip) := SC.mk' (by simp only [Tryz.f359, go_sem]; rfl)
noncomputable def fun359 : Fun := ⟨[0, 1, 2, 6, 7, 11, 15, 4, 5], [2], [], 2, s359.1, [.tmp 4, .tmp 5], 0⟩
theorem ok359 : FnM Tryz.prog 359 fun359 := SC.okM s359 rfl (fn := Tryz.f359) (by kernel_rfl) (by kernel_rfl)
noncomputable def s369 : SC (Tryz.f369.body.getD .skip) := SC.mk' (by simp only [Tryz.f369, go_sem]; rfl)
noncomputable def fun369 : Fun := ⟨[0, 1, 4], [], [], 2, s369.1, [.tmp 4], 0⟩
theorem ok369 : FnM Tryz.prog 369 fun369 := SC.okM s369 rfl (fn := Tryz.f369) (by kernel_rfl) (by kernel_rfl)
noncomputable def s376 : SC (Tryz.f376.body.getD .skip) := SC.mk' (by simp only [Tryz.f376, go_sem]; rfl)
noncomputable def fun376 : Fun := ⟨[0, 1, 2, 9, 4], [2], [], 2, s376.1, [.tmp 4], 0⟩
theorem ok376 : FnM Tryz.prog 376 fun376 := SC.okM s376 rfl (fn := Tryz.f376) (by kernel_rfl) (by kernel_rfl)
end Go.M
