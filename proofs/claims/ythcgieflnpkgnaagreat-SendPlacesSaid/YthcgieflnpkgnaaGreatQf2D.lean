/-
  The codes of functions, as the machine takes them.
  No condition: definitions and lemmas.
-/
import Derived.Test.YthcgieflnpkgnaaGreatQtyD
set_option linter.all false
set_option maxRecDepth 100000
set_option maxHeartbeats 4000000
namespace Go.M
open Go Go.Proofs
open Go.Eng (SOp SOper SCode sizeP aggP zerosOf bytesP zeroVal stripCode stripOps stripOper strip stripParts kindsOf)

noncomputable def s8 : SC (Tryz.f8.body.getD .skip) := SC.mk' (by simp only [Tryz.f8, go_sem]; rfl)
noncomputable def fun8 : Fun := ⟨[0, 1, 2, 3, 12, 15, 4, 17, 8, 14, 16, 5, 6, 33, 18, 19, 53, 9, 10, 11], [4, 5, 6, 8, 12, 16, 17], [], 4, s8.1, [.cell 8 true 11, .tmp 9, .tmp 10, .tmp 11], 17⟩
theorem ok8 : FnM Tryz.prog 8 fun8 := SC.okM s8 rfl (fn := Tryz.f8) (by kernel_rfl) (by kernel_rfl)
noncomputable def s11 : SC (Tryz.f11.body.getD .skip) := SC.mk' (by simp only [Tryz.f11, go_sem]; rfl)
noncomputable def fun11 : Fun := ⟨[0, 5, 11, 3, 2], [], [], 1, s11.1, [.tmp 2], 1⟩
theorem ok11 : FnM Tryz.prog 11 fun11 := SC.okM s11 rfl (fn := Tryz.f11) (by kernel_rfl) (by kernel_rfl)
noncomputable def s12 : SC (Tryz.f12.body.getD .skip) := SC.mk' (by simp only [Tryz.f12, go_sem]; rfl)
noncomputable def fun12 : Fun := ⟨[1, 2, 3, 4, 5, 0], [1, 2], [], 0, s12.1, [.tmp 0], 19⟩
theorem ok12 : FnM Tryz.prog 12 fun12 := SC.okM s12 rfl (fn := Tryz.f12) (by kernel_rfl) (by kernel_rfl)
noncomputable def s26 : SC (Tryz.f26.body.getD .skip) := SC.mk' (by simp only [Tryz.f26, go_sem]; rfl)
noncomputable def fun26 : Fun := ⟨[0, 1, 2, 6], [], [], 3, s26.1, [.tmp 6], 0⟩
theorem ok26 : FnM Tryz.prog 26 fun26 := SC.okM s26 rfl (fn := Tryz.f26) (by kernel_rfl) (by kernel_rfl)
noncomputable def s29 : SC (Tryz.f29.body.getD .skip) := SC.mk' (by simp only [Tryz.f29, go_sem]; rfl)
noncomputable def fun29 : Fun := ⟨[0, 1, 2, 6, 8, 9, 16, 22, 7], [6, 8], [], 3, s29.1, [.cell 6 true 8, .tmp 7], 1⟩
theorem ok29 : FnM Tryz.prog 29 fun29 := SC.okM s29 rfl (fn := Tryz.f29) (by kernel_rfl) (by kernel_rfl)
noncomputable def s34 : SC (Tryz.f34.body.getD .skip) := SC.mk' (by simp only [Tryz.f34, go_sem]; rfl)
noncomputable def fun34 : Fun := ⟨[0, 1, 3, 7, 11, 2], [1], [], 1, s34.1, [.tmp 2], 7⟩
theorem ok34 : FnM Tryz.prog 34 fun34 := SC.okM s34 rfl (fn := Tryz.f34) (by kernel_rfl) (by kernel_rfl)
noncomputable def s36 : SC (Tryz.f36.body.getD .skip) := SC.mk' (by simp only [Tryz.f36, go_sem]; rfl)
noncomputable def fun36 : Fun := ⟨[0, 4, 3, 8, 2], [], [], 1, s36.1, [.tmp 2], 0⟩
theorem ok36 : FnM Tryz.prog 36 fun36 := SC.okM s36 rfl (fn := Tryz.f36) (by kernel_rfl) (by kernel_rfl)
noncomputable def s56 : SC (Tryz.f56.body.getD .skip) := SC.mk' (by simp only [Tryz.f56, go_sem]; rfl)
noncomputable def fun56 : Fun := ⟨[0, 1, 2, 11, 5, 6, 63, 86, 3, 38, 109, 129, 12, 23, 28, 37, 62, 76, 85, 108, 116, 117, 128, 4], [2, 3], [], 2, s56.1, [.tmp 4], 1⟩
theorem ok56 : FnM Tryz.prog 56 fun56 := SC.okM s56 rfl (fn := Tryz.f56) (by kernel_rfl) (by kernel_rfl)
noncomputable def s105 : SC (Tryz.f105.body.getD .skip) := SC.mk' (by simp only [Tryz.f105, go_sem]; rfl)
noncomputable def fun105 : Fun := ⟨[0, 1, 6, 2, 3, 7, 8, 10, 9, 11, 28, 52, 71, 106, 117, 4, 5], [1, 2, 3, 6, 7, 8, 9, 11], [85, 90], 1, s105.1, [.cell 2 true 63, .cell 3 true 6, .tmp 4, .tmp 5], 14⟩
theorem ok105 : FnM Tryz.prog 105 fun105 := SC.okM s105 rfl (fn := Tryz.f105) (by kernel_rfl) (by kernel_rfl)
noncomputable def s108 : SC (Tryz.f108.body.getD .skip) := SC.mk' (by simp only [Tryz.f108, go_sem]; rfl)
noncomputable def fun108 : Fun := ⟨[0, 1, 38, 42, 2], [1], [], 1, s108.1, [.tmp 2], 1⟩
theorem ok108 : FnM Tryz.prog 108 fun108 := SC.okM s108 rfl (fn := Tryz.f108) (by kernel_rfl) (by kernel_rfl)
noncomputable def s110 : SC (Tryz.f110.body.getD .skip) := SC.mk' (by simp only [Tryz.f110, go_sem]; rfl)
noncomputable def fun110 : Fun := ⟨[0, 1, 4, 3, 7, 5, 6, 8, 12, 17, 29, 31, 36, 45, 66, 74, 79, 106, 2], [1, 4], [], 1, s110.1, [.tmp 2], 2⟩
theorem ok110 : FnM Tryz.prog 110 fun110 := SC.okM s110 rfl (fn := Tryz.f110) (by kernel_rfl) (by kernel_rfl)
noncomputable def s118 : SC (Tryz.f118.body.getD .skip) := SC.mk' (by simp only [Tryz.f118, go_sem]; rfl)
noncomputable def fun118 : Fun := ⟨[0, 1, 2, 4], [2], [], 2, s118.1, [.tmp 4], 8⟩
theorem ok118 : FnM Tryz.prog 118 fun118 := SC.okM s118 rfl (fn := Tryz.f118) (by kernel_rfl) (by kernel_rfl)
noncomputable def s136 : SC (Tryz.f136.body.getD .skip) := SC.mk' (by simp only [Tryz.f136, go_sem]; rfl)
noncomputable def fun136 : Fun := ⟨[0, 1, 2, 9, 8, 26, 32, 6, 7], [], [], 3, s136.1, [.tmp 6, .tmp 7], 0⟩
theorem ok136 : FnM Tryz.prog 136 fun136 := SC.okM s136 rfl (fn := Tryz.f136) (by kernel_rfl) (by kernel_rfl)
noncomputable def s137 : SC (Tryz.f137.body.getD .skip) := SC.mk' (by simp only [Tryz.f137, go_sem]; rfl)
noncomputable def fun137 : Fun := ⟨[0, 2], [], [], 1, s137.1, [.tmp 2], 1⟩
theorem ok137 : FnM Tryz.prog 137 fun137 := SC.okM s137 rfl (fn := Tryz.f137) (by kernel_rfl) (by kernel_rfl)
noncomputable def s147 : SC (Tryz.f147.body.getD .skip) := SC.mk' (by simp only [Tryz.f147, go_sem]; rfl)
noncomputable def fun147 : Fun := ⟨[0, 1, 2, 8, 3], [1, 2], [], 1, s147.1, [.cell 2 true 26, .tmp 3], 2⟩
theorem ok147 : FnM Tryz.prog 147 fun147 := SC.okM s147 rfl (fn := Tryz.f147) (by kernel_rfl) (by kernel_rfl)
noncomputable def s149 : SC (Tryz.f149.body.getD .skip) := SC.mk' (by simp only [Tryz.f149, go_sem]; rfl)
noncomputable def fun149 : Fun := ⟨[0, 4, 5, 3, 8, 12, 20, 24, 35, 39, 52, 2], [], [], 1, s149.1, [.tmp 2], 1⟩
theorem ok149 : FnM Tryz.prog 149 fun149 := SC.okM s149 rfl (fn := Tryz.f149) (by kernel_rfl) (by kernel_rfl)
noncomputable def s151 : SC (Tryz.f151.body.getD .skip) := SC.mk' (by simp only [Tryz.f151, go_sem]; rfl)
noncomputable def fun151 : Fun := ⟨[0, 4, 1, 3, 10, 2], [1], [], 1, s151.1, [.tmp 2], 0⟩
theorem ok151 : FnM Tryz.prog 151 fun151 := SC.okM s151 rfl (fn := Tryz.f151) (by kernel_rfl) (by kernel_rfl)
noncomputable def s170 : SC (Tryz.f170.body.getD .skip) := SC.mk' (by simp only [Tryz.f170, go_sem]; rfl)
noncomputable def fun170 : Fun := ⟨[0, 1, 11, 4, 41, 7, 9, 48, 10, 12, 3, 5, 36, 40, 42, 6, 47, 49, 51, 59, 2], [1], [], 1, s170.1, [.tmp 2], 3⟩
theorem ok170 : FnM Tryz.prog 170 fun170 := SC.okM s170 rfl (fn := Tryz.f170) (by kernel_rfl) (by kernel_rfl)
noncomputable def s171 : SC (Tryz.f171.body.getD .skip) := SC.mk' (by simp only [Tryz.f171, go_sem]; rfl)
noncomputable def fun171 : Fun := ⟨[0, 1, 3, 7, 11, 2], [1], [], 1, s171.1, [.tmp 2], 7⟩
theorem ok171 : FnM Tryz.prog 171 fun171 := SC.okM s171 rfl (fn := Tryz.f171) (by kernel_rfl) (by kernel_rfl)
noncomputable def s178 : SC (Tryz.f178.body.getD .skip) := SC.mk' (by simp only [Tryz.f178, go_sem]; rfl)
noncomputable def fun178 : Fun := ⟨[0, 1, 8, 5, 7, 9, 16, 4], [], [], 2, s178.1, [.tmp 4], 1⟩
theorem ok178 : FnM Tryz.prog 178 fun178 := SC.okM s178 rfl (fn := Tryz.f178) (by kernel_rfl) (by kernel_rfl)
noncomputable def s179 : SC (Tryz.f179.body.getD .skip) := SC.mk' (by simp only [Tryz.f179, go_sem]; rfl)
noncomputable def fun179 : Fun := ⟨[0, 1, 2, 3], [2], [], 2, s179.1, [.tmp 3], 0⟩
theorem ok179 : FnM Tryz.prog 179 fun179 := SC.okM s179 rfl (fn := Tryz.f179) (by kernel_rfl) (by kernel_rfl)
noncomputable def s249 : SC (Tryz.f249.body.getD .skip) := SC.mk' (by simp only [Tryz.f249, go_sem]; rfl)
noncomputable def fun249 : Fun := ⟨[0, 1, 2, 3, 4, 6, 11, 5], [2, 3, 4], [], 2, s249.1, [.cell 4 true 3, .tmp 5], 11⟩
theorem ok249 : FnM Tryz.prog 249 fun249 := SC.okM s249 rfl (fn := Tryz.f249) (by kernel_rfl) (by kernel_rfl)
noncomputable def s283 : SC (Tryz.f283.body.getD .skip) := SC.mk' (by simp only [Tryz.f283, go_sem]; rfl)
noncomputable def fun283 : Fun := ⟨[0, 1, 2], [], [], 1, s283.1, [.tmp 2], 8⟩
theorem ok283 : FnM Tryz.prog 283 fun283 := SC.okM s283 rfl (fn := Tryz.f283) (by kernel_rfl) (by kernel_rfl)
noncomputable def s288 : SC (Tryz.f288.body.getD .skip) := SC.mk' (by simp only [Tryz.f288, go_sem]; rfl)
noncomputable def fun288 : Fun := ⟨[0, 1, 2, 3, 4, 7, 8, 30, 10, 18, 29, 31, 12, 35, 42, 9], [4, 7, 8], [], 4, s288.1, [.cell 8 true 11, .tmp 9], 3⟩
theorem ok288 : FnM Tryz.prog 288 fun288 := SC.okM s288 rfl (fn := Tryz.f288) (by kernel_rfl) (by kernel_rfl)
noncomputable def s289 : SC (Tryz.f289.body.getD .skip) := SC.mk' (by simp only [Tryz.f289, go_sem]; rfl)
noncomputable def fun289 : Fun := ⟨[0, 4, 2], [], [], 1, s289.1, [.tmp 2], 0⟩
theorem ok289 : FnM Tryz.prog 289 fun289 := SC.okM s289 rfl (fn := Tryz.f289) (by kernel_rfl) (by kernel_rfl)
noncomputable def s300 : SC (Tryz.f300.body.getD .skip) := SC.mk' (by simp only [Tryz.f300, go_sem]; rfl)
noncomputable def fun300 : Fun := ⟨[0, 1, 4, 14, 12, 3, 5, 6, 10, 13, 15, 23, 25, 30, 35, 57, 61, 2], [1, 4], [], 1, s300.1, [.tmp 2], 5⟩
theorem ok300 : FnM Tryz.prog 300 fun300 := SC.okM s300 rfl (fn := Tryz.f300) (by kernel_rfl) (by kernel_rfl)
noncomputable def s351 : SC (Tryz.f351.body.getD .skip) := SC.mk' (by simp only [Tryz.f351, go_sem]; rfl)
noncomputable def fun351 : Fun := ⟨[0, 1, 2, 4], [2], [], 2, s351.1, [.tmp 4], 0⟩
theorem ok351 : FnM Tryz.prog 351 fun351 := SC.okM s351 rfl (fn := Tryz.f351) (by kernel_rfl) (by kernel_rfl)
noncomputable def s353 : SC (Tryz.f353.body.getD .skip) := SC.mk' (by simp only [Tryz.f353, go_sem]; rfl)
noncomputable def fun353 : Fun := ⟨[0, 1, 2, 3, 5, 6, 10, 15, 17, 24, 4], [2, 3], [], 2, s353.1, [.tmp 4], 10⟩
theorem ok353 : FnM Tryz.prog 353 fun353 := SC.okM s353 rfl (fn := Tryz.f353) (by kernel_rfl) (by kernel_rfl)
noncomputable def s391 : SC (Tryz.f391.body.getD .skip) := SC.mk' (by simp only [Tryz.f391, go_sem]; rfl)
noncomputable def fun391 : Fun := ⟨[0, 1, 5, 6, 7, 12, 19, 29, 4], [], [], 2, s391.1, [.tmp 4], 7⟩
theorem ok391 : FnM Tryz.prog 391 fun391 := SC.okM s391 rfl (fn := Tryz.f391) (by kernel_rfl) (by kernel_rfl)
noncomputable def s392 : SC (Tryz.f392.body.getD .skip) := SC.mk' (by simp only [Tryz.f392, go_sem]; rfl)
noncomputable def fun392 : Fun := ⟨[0, 1, 3], [], [], 2, s392.1, [.tmp 3], 0⟩
theorem ok392 : FnM Tryz.prog 392 fun392 := SC.okM s392 rfl (fn := Tryz.f392) (by kernel_rfl) (by kernel_rfl)
noncomputable def s393 : SC (Tryz.f393.body.getD .skip) := SC.mk' (by simp only [Tryz.f393, go_sem]; rfl)
noncomputable def fun393 : Fun := ⟨[0, 2], [], [], 1, s393.1, [.tmp 2], 0⟩
theorem ok393 : FnM Tryz.prog 393 fun393 := SC.okM s393 rfl (fn := Tryz.f393) (by kernel_rfl) (by kernel_rfl)
noncomputable def s394 : SC (Tryz.f394.body.getD .skip) := SC.mk' (by simp only [Tryz.f394, go_sem]; rfl)
noncomputable def fun394 : Fun := ⟨[0, 1, 2, 3, 7, 17, 6], [3], [], 3, s394.1, [.tmp 6], 2⟩
theorem ok394 : FnM Tryz.prog 394 fun394 := SC.okM s394 rfl (fn := Tryz.f394) (by kernel_rfl) (by kernel_rfl)
noncomputable def s396 : SC (Tryz.f396.body.getD .skip) := SC.mk' (by simp only [Tryz.f396, go_sem]; rfl)
noncomputable def fun396 : Fun := ⟨[0, 2], [], [], 1, s396.1, [.tmp 2], 1⟩
theorem ok396 : FnM Tryz.prog 396 fun396 := SC.okM s396 rfl (fn := Tryz.f396) (by kernel_rfl) (by kernel_rfl)
noncomputable def s398 : SC (Tryz.f398.body.getD .skip) := SC.mk' (by simp only [Tryz.f398, go_sem]; rfl)
noncomputable def fun398 : Fun := ⟨[0, 4, 2], [], [], 1, s398.1, [.tmp 2], 0⟩
theorem ok398 : FnM Tryz.prog 398 fun398 := SC.okM s398 rfl (fn := Tryz.f398) (by kernel_rfl) (by kernel_rfl)
noncomputable def s407 : SC (Tryz.f407.body.getD .skip) := SC.mk' (by simp only [Tryz.f407, go_sem]; rfl)
noncomputable def fun407 : Fun := ⟨[0, 1, 4], [], [], 2, s407.1, [.tmp 4], 9⟩
theorem ok407 : FnM Tryz.prog 407 fun407 := SC.okM s407 rfl (fn := Tryz.f407) (by kernel_rfl) (by kernel_rfl)
noncomputable def s431 : SC (Tryz.f431.body.getD .skip) := SC.mk' (by simp only [Tryz.f431, go_sem]; rfl)
noncomputable def fun431 : Fun := ⟨[0, 1, 8, 5, 7, 9, 16, 4], [], [], 2, s431.1, [.tmp 4], 0⟩
theorem ok431 : FnM Tryz.prog 431 fun431 := SC.okM s431 rfl (fn := Tryz.f431) (by kernel_rfl) (by kernel_rfl)
noncomputable def s433 : SC (Tryz.f433.body.getD .skip) := SC.mk' (by simp only [Tryz.f433, go_sem]; rfl)
noncomputable def fun433 : Fun := ⟨[0, 1, 2, 3, 4], [2], [], 2, s433.1, [.tmp 4], 9⟩
theorem ok433 : FnM Tryz.prog 433 fun433 := SC.okM s433 rfl (fn := Tryz.f433) (by kernel_rfl) (by kernel_rfl)
noncomputable def s460 : SC (Tryz.f460.body.getD .skip) := SC.mk' (by simp only [Tryz.f460, go_sem]; rfl)
noncomputable def fun460 : Fun := ⟨[0, 1, 2, 3, 6, 9, 10, 23, 26, 7, 8], [3, 6], [], 3, s460.1, [.cell 6 true 11, .tmp 7, .tmp 8], 2⟩
theorem ok460 : FnM Tryz.prog 460 fun460 := SC.okM s460 rfl (fn := Tryz.f460) (by kernel_rfl) (by kernel_rfl)
end Go.M
