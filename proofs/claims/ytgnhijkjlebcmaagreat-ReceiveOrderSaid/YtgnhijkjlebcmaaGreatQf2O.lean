/-
  The codes of functions, as the machine takes them.
  No condition: definitions and lemmas.
-/
import Derived.Test.YtgnhijkjlebcmaaGreatQtyO
set_option linter.all false
set_option maxRecDepth 100000
set_option maxHeartbeats 4000000
namespace Go.M
open Go Go.Proofs
open Go.Eng (SOp SOper SCode sizeP aggP zerosOf bytesP zeroVal stripCode stripOps stripOper strip stripParts kindsOf kinds2)
noncomputable def s21 : SC (Tryz.f21.body.getD .skip) := SC.mk' (by simp only [Tryz.f21, go_sem]; rfl)
noncomputable def fun21 : Fun := ⟨[0, 4, 2, 9, 5, 6, 47, 3], [2, 4], [], 1, s21.1, [.cell 2 true 4, .tmp 3], 195⟩
theorem ok21 : FnM Tryz.prog 21 fun21 := SC.okM s21 rfl (fn := Tryz.f21) (by kernel_rfl) (by kernel_rfl)
noncomputable def s53 : SC (Tryz.f53.body.getD .skip) := SC.mk' (by simp only [Tryz.f53, go_sem]; rfl)
noncomputable def fun53 : Fun := ⟨[0, 1, 4, 42, 2, 3], [1], [], 1, s53.1, [.tmp 2, .tmp 3], 130⟩
theorem ok53 : FnM Tryz.prog 53 fun53 := SC.okM s53 rfl (fn := Tryz.f53) (by kernel_rfl) (by kernel_rfl)
noncomputable def s67 : SC (Tryz.f67.body.getD .skip) := SC.mk' (by simp only [Tryz.f67, go_sem]; rfl)
noncomputable def fun67 : Fun := ⟨[0, 1, 2, 19, 4, 6, 7, 3, 40, 112, 11, 20, 30, 52, 62, 72, 82, 92, 102, 123, 8, 9], [3, 4, 6, 7], [], 3, s67.1, [.cell 6 true 11, .cell 7 true 63, .tmp 8, .tmp 9], 975⟩
theorem ok67 : FnM Tryz.prog 67 fun67 := SC.okM s67 rfl (fn := Tryz.f67) (by kernel_rfl) (by kernel_rfl)
noncomputable def s71 : SC (Tryz.f71.body.getD .skip) := SC.mk' (by simp only [Tryz.f71, go_sem]; rfl)
noncomputable def fun71 : Fun := ⟨[0, 1, 2, 3, 11, 8, 9, 12, 4, 5, 22, 10], [4, 5, 8, 9], [], 4, s71.1, [.cell 8 true 11, .cell 9 true 26, .tmp 10], 845⟩
theorem ok71 : FnM Tryz.prog 71 fun71 := SC.okM s71 rfl (fn := Tryz.f71) (by kernel_rfl) (by kernel_rfl)
noncomputable def s77 : SC (Tryz.f77.body.getD .skip) := SC.mk' (by simp only [Tryz.f77, go_sem]; rfl)
noncomputable def fun77 : Fun := ⟨[0, 1, 2], [1, 2], [], 1, s77.1, [.cell 2 true 3], 0⟩
theorem ok77 : FnM Tryz.prog 77 fun77 := SC.okM s77 rfl (fn := Tryz.f77) (by kernel_rfl) (by kernel_rfl)
noncomputable def s78 : SC (Tryz.f78.body.getD .skip) := SC.mk' (by simp only [Tryz.f78, go_sem]; rfl)
noncomputable def fun78 : Fun := ⟨[0, 1, 2, 3, 8, 9, 11, 12, 13, 4, 5, 24, 10], [4, 5, 8, 9, 11, 12], [], 4, s78.1, [.cell 8 true 11, .cell 9 true 26, .tmp 10], 780⟩
theorem ok78 : FnM Tryz.prog 78 fun78 := SC.okM s78 rfl (fn := Tryz.f78) (by kernel_rfl) (by kernel_rfl)
noncomputable def s82 : SC (Tryz.f82.body.getD .skip) := SC.mk' (by simp only [Tryz.f82, go_sem]; rfl)
noncomputable def fun82 : Fun := ⟨[0, 1, 3, 7, 11, 2], [1], [], 1, s82.1, [.tmp 2], 455⟩
theorem ok82 : FnM Tryz.prog 82 fun82 := SC.okM s82 rfl (fn := Tryz.f82) (by kernel_rfl) (by kernel_rfl)
noncomputable def s103 : SC (Tryz.f103.body.getD .skip) := SC.mk' (by simp only [Tryz.f103, go_sem]; rfl)
noncomputable def fun103 : Fun := ⟨[0, 1, 3, 6, 2], [1], [], 1, s103.1, [.tmp 2], 0⟩
theorem ok103 : FnM Tryz.prog 103 fun103 := SC.okM s103 rfl (fn := Tryz.f103) (by kernel_rfl) (by kernel_rfl)
noncomputable def s105 : SC (Tryz.f105.body.getD .skip) := SC.mk' (by simp only [Tryz.f105, go_sem]; rfl)
noncomputable def fun105 : Fun := ⟨[0, 1, 2, 4, 3, 11, 6, 7, 32, 33, 45, 12, 10, 26, 40, 46, 56, 68, 8, 9], [3, 4, 6, 7, 12], [], 3, s105.1, [.cell 6 true 11, .cell 7 true 63, .tmp 8, .tmp 9], 1235⟩
theorem ok105 : FnM Tryz.prog 105 fun105 := SC.okM s105 rfl (fn := Tryz.f105) (by kernel_rfl) (by kernel_rfl)
noncomputable def s136 : SC (Tryz.f136.body.getD .skip) := SC.mk' (by simp only [Tryz.f136, go_sem]; rfl)
noncomputable def fun136 : Fun := ⟨[0, 1, 2, 4], [2], [], 2, s136.1, [.tmp 4], 0⟩
theorem ok136 : FnM Tryz.prog 136 fun136 := SC.okM s136 rfl (fn := Tryz.f136) (by kernel_rfl) (by kernel_rfl)
noncomputable def s183 : SC (Tryz.f183.body.getD .skip) := SC.mk' (by simp only [Tryz.f183, go_sem]; rfl)
noncomputable def fun183 : Fun := ⟨[0, 3, 31, 2], [], [], 1, s183.1, [.tmp 2], 130⟩
theorem ok183 : FnM Tryz.prog 183 fun183 := SC.okM s183 rfl (fn := Tryz.f183) (by kernel_rfl) (by kernel_rfl)
noncomputable def s187 : SC (Tryz.f187.body.getD .skip) := SC.mk' (by simp only [Tryz.f187, go_sem]; rfl)
noncomputable def fun187 : Fun := ⟨[0, 1, 3, 7, 11, 2], [1], [], 1, s187.1, [.tmp 2], 455⟩
theorem ok187 : FnM Tryz.prog 187 fun187 := SC.okM s187 rfl (fn := Tryz.f187) (by kernel_rfl) (by kernel_rfl)
noncomputable def s190 : SC (Tryz.f190.body.getD .skip) := SC.mk' (by simp only [Tryz.f190, go_sem]; rfl)
noncomputable def fun190 : Fun := ⟨[0, 1, 8, 5, 7, 9, 16, 4], [], [], 2, s190.1, [.tmp 4], 0⟩
theorem ok190 : FnM Tryz.prog 190 fun190 := SC.okM s190 rfl (fn := Tryz.f190) (by kernel_rfl) (by kernel_rfl)
noncomputable def s191 : SC (Tryz.f191.body.getD .skip) := SC.mk' (by simp only [Tryz.f191, go_sem]; rfl)
noncomputable def fun191 : Fun := ⟨[0, 1, 2, 4, 5, 13, 3], [1, 2, 4], [], 1, s191.1, [.cell 2 true 26, .tmp 3], 65⟩
theorem ok191 : FnM Tryz.prog 191 fun191 := SC.okM s191 rfl (fn := Tryz.f191) (by kernel_rfl) (by kernel_rfl)
noncomputable def s193 : SC (Tryz.f193.body.getD .skip) := SC.mk' (by simp only [Tryz.f193, go_sem]; rfl)
noncomputable def fun193 : Fun := ⟨[0, 4, 1, 10, 5, 2], [1], [], 1, s193.1, [.tmp 2], 0⟩
theorem ok193 : FnM Tryz.prog 193 fun193 := SC.okM s193 rfl (fn := Tryz.f193) (by kernel_rfl) (by kernel_rfl)
noncomputable def s202 : SC (Tryz.f202.body.getD .skip) := SC.mk' (by simp only [Tryz.f202, go_sem]; rfl)
noncomputable def fun202 : Fun := ⟨[0, 1, 2, 4, 3, 9, 12, 6, 7, 10, 11, 22, 45, 63, 76, 8], [3, 4, 6, 7, 10, 11], [], 3, s202.1, [.cell 6 true 11, .cell 7 true 26, .tmp 8], 650⟩
theorem ok202 : FnM Tryz.prog 202 fun202 := SC.okM s202 rfl (fn := Tryz.f202) (by kernel_rfl) (by kernel_rfl)
noncomputable def s207 : SC (Tryz.f207.body.getD .skip) := SC.mk' (by simp only [Tryz.f207, go_sem]; rfl)
noncomputable def fun207 : Fun := ⟨[0, 1, 5, 9, 18, 4], [], [], 2, s207.1, [.tmp 4], 0⟩
theorem ok207 : FnM Tryz.prog 207 fun207 := SC.okM s207 rfl (fn := Tryz.f207) (by kernel_rfl) (by kernel_rfl)
noncomputable def s208 : SC (Tryz.f208.body.getD .skip) := SC.mk' (by simp only [Tryz.f208, go_sem]; rfl)
noncomputable def fun208 : Fun := ⟨[0, 2], [], [], 1, s208.1, [.tmp 2], 0⟩
theorem ok208 : FnM Tryz.prog 208 fun208 := SC.okM s208 rfl (fn := Tryz.f208) (by kernel_rfl) (by kernel_rfl)
noncomputable def s240 : SC (Tryz.f240.body.getD .skip) := SC.mk' (by simp only [Tryz.f240, go_sem]; rfl)
noncomputable def fun240 : Fun := ⟨[0, 1, 2, 4, 3, 6, 7, 11, 17, 20, 34, 43, 5], [2, 3, 4], [], 2, s240.1, [.cell 4 true 8, .tmp 5], 585⟩
theorem ok240 : FnM Tryz.prog 240 fun240 := SC.okM s240 rfl (fn := Tryz.f240) (by kernel_rfl) (by kernel_rfl)
noncomputable def s271 : SC (Tryz.f271.body.getD .skip) := SC.mk' (by simp only [Tryz.f271, go_sem]; rfl)
noncomputable def fun271 : Fun := ⟨[0, 2], [], [], 1, s271.1, [.tmp 2], 0⟩
theorem ok271 : FnM Tryz.prog 271 fun271 := SC.okM s271 rfl (fn := Tryz.f271) (by kernel_rfl) (by kernel_rfl)
noncomputable def s294 : SC (Tryz.f294.body.getD .skip) := SC.mk' (by simp only [Tryz.f294, go_sem]; rfl)
noncomputable def fun294 : Fun := ⟨[0, 1, 7, 3, 6, 8, 4, 2], [1], [], 1, s294.1, [.tmp 2], 65⟩
theorem ok294 : FnM Tryz.prog 294 fun294 := SC.okM s294 rfl (fn := Tryz.f294) (by kernel_rfl) (by kernel_rfl)
noncomputable def s303 : SC (Tryz.f303.body.getD .skip) := SC.mk' (by simp only [Tryz.f303, go_sem]; rfl)
noncomputable def fun303 : Fun := ⟨[0, 1, 2, 3, 4, 8, 7, 10, 11, 17, 23, 39, 9], [4, 7, 8], [], 4, s303.1, [.cell 8 true 11, .tmp 9], 455⟩
theorem ok303 : FnM Tryz.prog 303 fun303 := SC.okM s303 rfl (fn := Tryz.f303) (by kernel_rfl) (by kernel_rfl)
noncomputable def s308 : SC (Tryz.f308.body.getD .skip) := SC.mk' (by simp only [Tryz.f308, go_sem]; rfl)
noncomputable def fun308 : Fun := ⟨[0, 1, 2, 4, 5, 13, 3], [1, 2, 4], [], 1, s308.1, [.cell 2 true 26, .tmp 3], 65⟩
theorem ok308 : FnM Tryz.prog 308 fun308 := SC.okM s308 rfl (fn := Tryz.f308) (by kernel_rfl) (by kernel_rfl)
noncomputable def s312 : SC (Tryz.f312.body.getD .skip) := SC.mk' (by simp only [Tryz.f312, go_sem]; rfl)
noncomputable def fun312 : Fun := ⟨[0, 4, 1, 3, 10, 2], [1], [], 1, s312.1, [.tmp 2], 0⟩
theorem ok312 : FnM Tryz.prog 312 fun312 := SC.okM s312 rfl (fn := Tryz.f312) (by kernel_rfl) (by kernel_rfl)
noncomputable def s340 : SC (Tryz.f340.body.getD .skip) := SC.mk' (by simp only [Tryz.f340, go_sem]; rfl)
noncomputable def fun340 : Fun := ⟨[0, 2], [], [], 1, s340.1, [.tmp 2], 65⟩
theorem ok340 : FnM Tryz.prog 340 fun340 := SC.okM s340 rfl (fn := Tryz.f340) (by kernel_rfl) (by kernel_rfl)
noncomputable def s367 : SC (Tryz.f367.body.getD .skip) := SC.mk' (by simp only [Tryz.f367, go_sem]; rfl)
noncomputable def fun367 : Fun := ⟨[0, 1, 2, 3, 24, 9, 45, 6, 7, 22, 43, 11, 19, 23, 25, 37, 44, 46, 53], [3, 9, 11], [], 3, s367.1, [.tmp 6, .tmp 7], 585⟩
theorem ok367 : FnM Tryz.prog 367 fun367 := SC.okM s367 rfl (fn := Tryz.f367) (by kernel_rfl) (by kernel_rfl)
noncomputable def s374 : SC (Tryz.f374.body.getD .skip) := SC.mk' (by simp only [Tryz.f374, go_sem]; rfl)
noncomputable def fun374 : Fun := ⟨[0, 1, 38, 42, 2], [1], [], 1, s374.1, [.tmp 2], 65⟩
theorem ok374 : FnM Tryz.prog 374 fun374 := SC.okM s374 rfl (fn := Tryz.f374) (by kernel_rfl) (by kernel_rfl)
noncomputable def s388 : SC (Tryz.f388.body.getD .skip) := SC.mk' (by simp only [Tryz.f388, go_sem]; rfl)
noncomputable def fun388 : Fun := ⟨[0, 4, 2], [], [], 1, s388.1, [.tmp 2], 0⟩
theorem ok388 : FnM Tryz.prog 388 fun388 := SC.okM s388 rfl (fn := Tryz.f388) (by kernel_rfl) (by kernel_rfl)
noncomputable def s390 : SC (Tryz.f390.body.getD .skip) := SC.mk' (by simp only [Tryz.f390, go_sem]; rfl)
noncomputable def fun390 : Fun := ⟨[0, 1, 4], [], [], 2, s390.1, [.tmp 4], 65⟩
theorem ok390 : FnM Tryz.prog 390 fun390 := SC.okM s390 rfl (fn := Tryz.f390) (by kernel_rfl) (by kernel_rfl)
noncomputable def s402 : SC (Tryz.f402.body.getD .skip) := SC.mk' (by simp only [Tryz.f402, go_sem]; rfl)
noncomputable def fun402 : Fun := ⟨[0, 1, 2, 4, 9, 6, 8, 10, 23, 32, 46, 7], [4, 6, 8, 10], [], 3, s402.1, [.cell 6 true 8, .tmp 7], 975⟩
theorem ok402 : FnM Tryz.prog 402 fun402 := SC.okM s402 rfl (fn := Tryz.f402) (by kernel_rfl) (by kernel_rfl)
noncomputable def s446 : SC (Tryz.f446.body.getD .skip) := SC.mk' (by simp only [Tryz.f446, go_sem]; rfl)
noncomputable def fun446 : Fun := ⟨[0, 1, 8, 5, 7, 9, 16, 4], [], [], 2, s446.1, [.tmp 4], 130⟩
theorem ok446 : FnM Tryz.prog 446 fun446 := SC.okM s446 rfl (fn := Tryz.f446) (by kernel_rfl) (by kernel_rfl)
noncomputable def s449 : SC (Tryz.f449.body.getD .skip) := SC.mk' (by simp only [Tryz.f449, go_sem]; rfl)
noncomputable def fun449 : Fun := ⟨[0, 1, 4], [], [], 2, s449.1, [], 520⟩
theorem ok449 : FnM Tryz.prog 449 fun449 := SC.okM s449 rfl (fn := Tryz.f449) (by kernel_rfl) (by kernel_rfl)
end Go.M
