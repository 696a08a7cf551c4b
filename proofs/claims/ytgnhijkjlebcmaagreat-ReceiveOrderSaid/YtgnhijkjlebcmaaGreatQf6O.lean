/-
  The codes of functions, as the machine takes them.
  No condition: definitions and lemmas.
-/
import Derived.Test.YtgnhijkjlebcmaaGreatQtyO
set_option linter.all false
set_option maxRecDepth 100000
set_option maxHeartbeats 4000000
namespace Go.M
open Go Go.Proofs
open Go.Eng (SOp SOper SCode sizeP aggP zerosOf bytesP zeroVal stripCode stripOps stripOper strip stripParts kindsOf kinds2)
noncomputable def s8 : SC (Tryz.f8.body.getD .skip) := SC.mk' (by simp only [Tryz.f8, go_sem]; rfl)
noncomputable def fun8 : Fun := ⟨[0, 1, 2, 4, 5, 12, 3], [1, 2, 4], [], 1, s8.1, [.cell 2 true 23, .tmp 3], 195⟩
theorem ok8 : FnM Tryz.prog 8 fun8 := SC.okM s8 rfl (fn := Tryz.f8) (by kernel_rfl) (by kernel_rfl)
noncomputable def s10 : SC (Tryz.f10.body.getD .skip) := SC.mk' (by simp only [Tryz.f10, go_sem]; rfl)
noncomputable def fun10 : Fun := ⟨[0, 1, 2, 4, 7, 8, 9, 3, 19, 36, 5, 6], [2, 3, 4, 8], [], 2, s10.1, [.cell 4 true 23, .tmp 5, .tmp 6], 260⟩
theorem ok10 : FnM Tryz.prog 10 fun10 := SC.okM s10 rfl (fn := Tryz.f10) (by kernel_rfl) (by kernel_rfl)
noncomputable def s29 : SC (Tryz.f29.body.getD .skip) := SC.mk' (by simp only [Tryz.f29, go_sem]; rfl)
noncomputable def fun29 : Fun := ⟨[0, 1, 5, 7, 2, 4, 15], [2, 4, 5], [], 2, s29.1, [.cell 4 true 11], 1170⟩
theorem ok29 : FnM Tryz.prog 29 fun29 := SC.okM s29 rfl (fn := Tryz.f29) (by kernel_rfl) (by kernel_rfl)
noncomputable def s30 : SC (Tryz.f30.body.getD .skip) := SC.mk' (by simp only [Tryz.f30, go_sem]; rfl)
noncomputable def fun30 : Fun := ⟨[0, 1, 2, 3, 12, 15, 4, 17, 8, 14, 16, 5, 6, 33, 18, 19, 53, 9, 10, 11], [4, 5, 6, 8, 12, 16, 17], [], 4, s30.1, [.cell 8 true 11, .tmp 9, .tmp 10, .tmp 11], 1365⟩
theorem ok30 : FnM Tryz.prog 30 fun30 := SC.okM s30 rfl (fn := Tryz.f30) (by kernel_rfl) (by kernel_rfl)
noncomputable def s37 : SC (Tryz.f37.body.getD .skip) := SC.mk' (by simp only [Tryz.f37, go_sem]; rfl)
noncomputable def fun37 : Fun := ⟨[0, 1, 5, 2, 10, 20, 4], [2], [], 2, s37.1, [.tmp 4], 0⟩
theorem ok37 : FnM Tryz.prog 37 fun37 := SC.okM s37 rfl (fn := Tryz.f37) (by kernel_rfl) (by kernel_rfl)
noncomputable def s44 : SC (Tryz.f44.body.getD .skip) := SC.mk' (by simp only [Tryz.f44, go_sem]; rfl)
noncomputable def fun44 : Fun := ⟨[0, 1, 2, 3, 6], [3, 6], [], 3, s44.1, [.cell 6 true 63], 130⟩
theorem ok44 : FnM Tryz.prog 44 fun44 := SC.okM s44 rfl (fn := Tryz.f44) (by kernel_rfl) (by kernel_rfl)
noncomputable def s60 : SC (Tryz.f60.body.getD .skip) := SC.mk' (by simp only [Tryz.f60, go_sem]; rfl)
noncomputable def fun60 : Fun := ⟨[0, 1, 2, 4, 3, 6, 7, 26, 10, 11, 13, 17, 12, 27, 35, 46, 64, 8, 9], [3, 4, 6, 7], [], 3, s60.1, [.cell 6 true 11, .cell 7 true 63, .tmp 8, .tmp 9], 1300⟩
theorem ok60 : FnM Tryz.prog 60 fun60 := SC.okM s60 rfl (fn := Tryz.f60) (by kernel_rfl) (by kernel_rfl)
noncomputable def s108 : SC (Tryz.f108.body.getD .skip) := SC.mk' (by simp only [Tryz.f108, go_sem]; rfl)
noncomputable def fun108 : Fun := ⟨[0, 1, 4], [], [], 2, s108.1, [.tmp 4], 0⟩
theorem ok108 : FnM Tryz.prog 108 fun108 := SC.okM s108 rfl (fn := Tryz.f108) (by kernel_rfl) (by kernel_rfl)
noncomputable def s121 : SC (Tryz.f121.body.getD .skip) := SC.mk' (by simp only [Tryz.f121, go_sem]; rfl)
noncomputable def fun121 : Fun := ⟨[0, 3, 4, 5, 35, 2], [], [], 1, s121.1, [.tmp 2], 780⟩
theorem ok121 : FnM Tryz.prog 121 fun121 := SC.okM s121 rfl (fn := Tryz.f121) (by kernel_rfl) (by kernel_rfl)
noncomputable def s155 : SC (Tryz.f155.body.getD .skip) := SC.mk' (by simp only [Tryz.f155, go_sem]; rfl)
noncomputable def fun155 : Fun := ⟨[0, 2, 9, 3], [2], [], 1, s155.1, [.cell 2 true 2, .tmp 3], 0⟩
theorem ok155 : FnM Tryz.prog 155 fun155 := SC.okM s155 rfl (fn := Tryz.f155) (by kernel_rfl) (by kernel_rfl)
noncomputable def s159 : SC (Tryz.f159.body.getD .skip) := SC.mk' (by simp only [Tryz.f159, go_sem]; rfl)
noncomputable def fun159 : Fun := ⟨[0, 1, 2, 3, 4, 8, 18, 35, 11, 45, 48, 9, 10], [4, 8], [], 4, s159.1, [.cell 8 true 11, .tmp 9, .tmp 10], 65⟩
theorem ok159 : FnM Tryz.prog 159 fun159 := SC.okM s159 rfl (fn := Tryz.f159) (by kernel_rfl) (by kernel_rfl)
noncomputable def s161 : SC (Tryz.f161.body.getD .skip) := SC.mk' (by simp only [Tryz.f161, go_sem]; rfl)
noncomputable def fun161 : Fun := ⟨[0, 5, 11, 3, 2], [], [], 1, s161.1, [.tmp 2], 65⟩
theorem ok161 : FnM Tryz.prog 161 fun161 := SC.okM s161 rfl (fn := Tryz.f161) (by kernel_rfl) (by kernel_rfl)
noncomputable def s186 : SC (Tryz.f186.body.getD .skip) := SC.mk' (by simp only [Tryz.f186, go_sem]; rfl)
noncomputable def fun186 : Fun := ⟨[0, 3, 6, 4, 5, 44, 71, 106, 134, 156, 2], [4, 5], [], 1, s186.1, [.tmp 2], 715⟩
theorem ok186 : FnM Tryz.prog 186 fun186 := SC.okM s186 rfl (fn := Tryz.f186) (by kernel_rfl) (by kernel_rfl)
noncomputable def s189 : SC (Tryz.f189.body.getD .skip) := SC.mk' (by simp only [Tryz.f189, go_sem]; rfl)
noncomputable def fun189 : Fun := ⟨[0, 1, 5, 2], [1], [], 1, s189.1, [.tmp 2], 195⟩
theorem ok189 : FnM Tryz.prog 189 fun189 := SC.okM s189 rfl (fn := Tryz.f189) (by kernel_rfl) (by kernel_rfl)
noncomputable def s243 : SC (Tryz.f243.body.getD .skip) := SC.mk' (by simp only [Tryz.f243, go_sem]; rfl)
noncomputable def fun243 : Fun := ⟨[0, 1, 2, 4], [2], [], 2, s243.1, [.tmp 4], 0⟩
theorem ok243 : FnM Tryz.prog 243 fun243 := SC.okM s243 rfl (fn := Tryz.f243) (by kernel_rfl) (by kernel_rfl)
noncomputable def s280 : SC (Tryz.f280.body.getD .skip) := SC.mk' (by simp only [Tryz.f280, go_sem]; rfl)
noncomputable def fun280 : Fun := ⟨[0, 1, 2, 3, 4, 8, 7, 10, 11, 17, 23, 39, 9], [4, 7, 8], [], 4, s280.1, [.cell 8 true 11, .tmp 9], 455⟩
theorem ok280 : FnM Tryz.prog 280 fun280 := SC.okM s280 rfl (fn := Tryz.f280) (by kernel_rfl) (by kernel_rfl)
noncomputable def s283 : SC (Tryz.f283.body.getD .skip) := SC.mk' (by simp only [Tryz.f283, go_sem]; rfl)
noncomputable def fun283 : Fun := ⟨[0, 1, 2, 3, 8, 11, 4, 5, 10, 12, 18, 27, 43, 9], [4, 5, 8, 11], [], 4, s283.1, [.cell 8 true 4, .tmp 9], 650⟩
theorem ok283 : FnM Tryz.prog 283 fun283 := SC.okM s283 rfl (fn := Tryz.f283) (by kernel_rfl) (by kernel_rfl)
noncomputable def s306 : SC (Tryz.f306.body.getD .skip) := SC.mk' (by simp only [Tryz.f306, go_sem]; rfl)
noncomputable def fun306 : Fun := ⟨[0, 1, 5, 2, 11, 21, 4], [2], [], 2, s306.1, [.tmp 4], 0⟩
theorem ok306 : FnM Tryz.prog 306 fun306 := SC.okM s306 rfl (fn := Tryz.f306) (by kernel_rfl) (by kernel_rfl)
noncomputable def s322 : SC (Tryz.f322.body.getD .skip) := SC.mk' (by simp only [Tryz.f322, go_sem]; rfl)
noncomputable def fun322 : Fun := ⟨[0, 13, 1, 3, 11, 5, 12, 14, 2], [1, 5], [], 1, s322.1, [.tmp 2], 260⟩
theorem ok322 : FnM Tryz.prog 322 fun322 := SC.okM s322 rfl (fn := Tryz.f322) (by kernel_rfl) (by kernel_rfl)
noncomputable def s328 : SC (Tryz.f328.body.getD .skip) := SC.mk' (by simp only [Tryz.f328, go_sem]; rfl)
noncomputable def fun328 : Fun := ⟨[0, 2], [], [], 1, s328.1, [.tmp 2], 65⟩
theorem ok328 : FnM Tryz.prog 328 fun328 := SC.okM s328 rfl (fn := Tryz.f328) (by kernel_rfl) (by kernel_rfl)
noncomputable def s333 : SC (Tryz.f333.body.getD .skip) := SC.mk' (by simp only [Tryz.f333, go_sem]; rfl)
noncomputable def fun333 : Fun := ⟨[0, 2], [], [], 1, s333.1, [.tmp 2], 65⟩
theorem ok333 : FnM Tryz.prog 333 fun333 := SC.okM s333 rfl (fn := Tryz.f333) (by kernel_rfl) (by kernel_rfl)
noncomputable def s343 : SC (Tryz.f343.body.getD .skip) := SC.mk' (by simp only [Tryz.f343, go_sem]; rfl)
noncomputable def fun343 : Fun := ⟨[0, 1, 2, 3, 4, 5, 6, 12, 16, 49, 18, 15, 47, 19, 20, 35, 41, 48, 50, 63, 73, 13, 14], [12, 18, 19], [23, 25, 27, 29, 31], 6, s343.1, [.cell 12 true 8, .tmp 13, .tmp 14], 1040⟩
theorem ok343 : FnM Tryz.prog 343 fun343 := SC.okM s343 rfl (fn := Tryz.f343) (by kernel_rfl) (by kernel_rfl)
noncomputable def s373 : SC (Tryz.f373.body.getD .skip) := SC.mk' (by simp only [Tryz.f373, go_sem]; rfl)
noncomputable def fun373 : Fun := ⟨[0, 1, 2, 4], [2], [], 2, s373.1, [.tmp 4], 0⟩
theorem ok373 : FnM Tryz.prog 373 fun373 := SC.okM s373 rfl (fn := Tryz.f373) (by kernel_rfl) (by kernel_rfl)
noncomputable def s395 : SC (Tryz.f395.body.getD .skip) := SC.mk' (by simp only [Tryz.f395, go_sem]; rfl)
noncomputable def fun395 : Fun := ⟨[0, 1, 2], [1, 2], [], 1, s395.1, [.cell 2 true 3], 65⟩
theorem ok395 : FnM Tryz.prog 395 fun395 := SC.okM s395 rfl (fn := Tryz.f395) (by kernel_rfl) (by kernel_rfl)
noncomputable def s399 : SC (Tryz.f399.body.getD .skip) := SC.mk' (by simp only [Tryz.f399, go_sem]; rfl)
noncomputable def fun399 : Fun := ⟨[0, 1, 3, 6, 10, 12, 16, 20, 4, 5], [3], [], 2, s399.1, [.tmp 4, .tmp 5], 325⟩
theorem ok399 : FnM Tryz.prog 399 fun399 := SC.okM s399 rfl (fn := Tryz.f399) (by kernel_rfl) (by kernel_rfl)
noncomputable def s409 : SC (Tryz.f409.body.getD .skip) := SC.mk' (by simp only [Tryz.f409, go_sem]; rfl)
noncomputable def fun409 : Fun := ⟨[0, 1, 2, 6, 3, 8, 9, 16, 25, 7], [3, 6], [], 3, s409.1, [.cell 6 true 11, .tmp 7], 130⟩
theorem ok409 : FnM Tryz.prog 409 fun409 := SC.okM s409 rfl (fn := Tryz.f409) (by kernel_rfl) (by kernel_rfl)
noncomputable def s418 : SC (Tryz.f418.body.getD .skip) := SC.mk' (by simp only [Tryz.f418, go_sem]; rfl)
noncomputable def fun418 : Fun := ⟨[0, 1, 2, 6], [], [], 3, s418.1, [.tmp 6], 0⟩
theorem ok418 : FnM Tryz.prog 418 fun418 := SC.okM s418 rfl (fn := Tryz.f418) (by kernel_rfl) (by kernel_rfl)
noncomputable def s429 : SC (Tryz.f429.body.getD .skip) := SC.mk' (by simp only [Tryz.f429, go_sem]; rfl)
noncomputable def fun429 : Fun := ⟨[0, 1, 18, 8, 5, 6, 16, 11, 17, 19, 25, 4], [8], [], 2, s429.1, [.tmp 4], 585⟩
theorem ok429 : FnM Tryz.prog 429 fun429 := SC.okM s429 rfl (fn := Tryz.f429) (by kernel_rfl) (by kernel_rfl)
noncomputable def s437 : SC (Tryz.f437.body.getD .skip) := SC.mk' (by simp only [Tryz.f437, go_sem]; rfl)
noncomputable def fun437 : Fun := ⟨[0, 1, 4], [], [], 2, s437.1, [.tmp 4], 195⟩
theorem ok437 : FnM Tryz.prog 437 fun437 := SC.okM s437 rfl (fn := Tryz.f437) (by kernel_rfl) (by kernel_rfl)
noncomputable def s445 : SC (Tryz.f445.body.getD .skip) := SC.mk' (by simp only [Tryz.f445, go_sem]; rfl)
noncomputable def fun445 : Fun := ⟨[0, 2], [], [], 1, s445.1, [.tmp 2], 0⟩
theorem ok445 : FnM Tryz.prog 445 fun445 := SC.okM s445 rfl (fn := Tryz.f445) (by kernel_rfl) (by kernel_rfl)
noncomputable def s447 : SC (Tryz.f447.body.getD .skip) := SC.mk' (by simp only [Tryz.f447, go_sem]; rfl)
noncomputable def fun447 : Fun := ⟨[0, 1, 2, 3], [2], [], 2, s447.1, [.tmp 3], 0⟩
theorem ok447 : FnM Tryz.prog 447 fun447 := SC.okM s447 rfl (fn := Tryz.f447) (by kernel_rfl) (by kernel_rfl)
noncomputable def s455 : SC (Tryz.f455.body.getD .skip) := SC.mk' (by simp only [Tryz.f455, go_sem]; rfl)
noncomputable def fun455 : Fun := ⟨[0, 1, 2, 3, 4, 16, 13, 10, 12, 14, 18, 19, 20, 11, 25, 32, 39, 56, 75, 80, 97, 15, 17, 125], [], [], 5, s455.1, [], 455⟩
theorem ok455 : FnM Tryz.prog 455 fun455 := SC.okM s455 rfl (fn := Tryz.f455) (by kernel_rfl) (by kernel_rfl)
end Go.M
