/-
  The codes of functions, as the machine takes them.
  No condition: definitions and lemmas.
-/
import Derived.Test.YthcgieflnpkgnaaGreatQtyB
set_option linter.all false
set_option maxRecDepth 100000
set_option maxHeartbeats 4000000
namespace Go.M
open Go Go.Proofs
open Go.Eng (SOp SOper SCode sizeP aggP zerosOf bytesP zeroVal stripCode stripOps stripOper strip stripParts kindsOf)

noncomputable def s9 : SC (Tryz.f9.body.getD .skip) := SC.mk' (by simp only [Tryz.f9, go_sem]; rfl)
noncomputable def fun9 : Fun := ⟨[0, 1, 2], [1], [], 1, s9.1, [.tmp 2], 4⟩
theorem ok9 : FnM Tryz.prog 9 fun9 := SC.okM s9 rfl (fn := Tryz.f9) (by kernel_rfl) (by kernel_rfl)
noncomputable def s11 : SC (Tryz.f11.body.getD .skip) := SC.mk' (by simp only [Tryz.f11, go_sem]; rfl)
noncomputable def fun11 : Fun := ⟨[0, 5, 11, 3, 2], [], [], 1, s11.1, [.tmp 2], 1⟩
theorem ok11 : FnM Tryz.prog 11 fun11 := SC.okM s11 rfl (fn := Tryz.f11) (by kernel_rfl) (by kernel_rfl)
noncomputable def s26 : SC (Tryz.f26.body.getD .skip) := SC.mk' (by simp only [Tryz.f26, go_sem]; rfl)
noncomputable def fun26 : Fun := ⟨[0, 1, 2, 6], [], [], 3, s26.1, [.tmp 6], 0⟩
theorem ok26 : FnM Tryz.prog 26 fun26 := SC.okM s26 rfl (fn := Tryz.f26) (by kernel_rfl) (by kernel_rfl)
noncomputable def s30 : SC (Tryz.f30.body.getD .skip) := SC.mk' (by simp only [Tryz.f30, go_sem]; rfl)
noncomputable def fun30 : Fun := ⟨[0, 2, 9, 3], [2], [], 1, s30.1, [.cell 2 true 2, .tmp 3], 0⟩
theorem ok30 : FnM Tryz.prog 30 fun30 := SC.okM s30 rfl (fn := Tryz.f30) (by kernel_rfl) (by kernel_rfl)
noncomputable def s35 : SC (Tryz.f35.body.getD .skip) := SC.mk' (by simp only [Tryz.f35, go_sem]; rfl)
noncomputable def fun35 : Fun := ⟨[0, 1, 2, 9, 8, 27, 33, 6, 7], [], [], 3, s35.1, [.tmp 6, .tmp 7], 0⟩
theorem ok35 : FnM Tryz.prog 35 fun35 := SC.okM s35 rfl (fn := Tryz.f35) (by kernel_rfl) (by kernel_rfl)
noncomputable def s55 : SC (Tryz.f55.body.getD .skip) := SC.mk' (by simp only [Tryz.f55, go_sem]; rfl)
noncomputable def fun55 : Fun := ⟨[0, 1, 4], [], [], 2, s55.1, [.tmp 4], 0⟩
theorem ok55 : FnM Tryz.prog 55 fun55 := SC.okM s55 rfl (fn := Tryz.f55) (by kernel_rfl) (by kernel_rfl)
noncomputable def s68 : SC (Tryz.f68.body.getD .skip) := SC.mk' (by simp only [Tryz.f68, go_sem]; rfl)
noncomputable def fun68 : Fun := ⟨[0, 1, 2, 8, 6, 11, 4, 7, 10, 9, 30, 61, 5], [2, 4, 6, 7, 8], [66], 2, s68.1, [.cell 4 true 23, .tmp 5], 16⟩
theorem ok68 : FnM Tryz.prog 68 fun68 := SC.okM s68 rfl (fn := Tryz.f68) (by kernel_rfl) (by kernel_rfl)
noncomputable def s71 : SC (Tryz.f71.body.getD .skip) := SC.mk' (by simp only [Tryz.f71, go_sem]; rfl)
noncomputable def fun71 : Fun := ⟨[0, 1, 2, 7, 4, 8, 9, 22, 44, 5, 6], [2, 4, 7, 9], [], 2, s71.1, [.cell 4 true 63, .tmp 5, .tmp 6], 4⟩
theorem ok71 : FnM Tryz.prog 71 fun71 := SC.okM s71 rfl (fn := Tryz.f71) (by kernel_rfl) (by kernel_rfl)
noncomputable def s109 : SC (Tryz.f109.body.getD .skip) := SC.mk' (by simp only [Tryz.f109, go_sem]; rfl)
noncomputable def fun109 : Fun := ⟨[0, 1, 5, 9, 18, 4], [], [], 2, s109.1, [.tmp 4], 0⟩
theorem ok109 : FnM Tryz.prog 109 fun109 := SC.okM s109 rfl (fn := Tryz.f109) (by kernel_rfl) (by kernel_rfl)
noncomputable def s110 : SC (Tryz.f110.body.getD .skip) := SC.mk' (by simp only [Tryz.f110, go_sem]; rfl)
noncomputable def fun110 : Fun := ⟨[0, 1, 4, 3, 7, 5, 6, 8, 12, 17, 29, 31, 36, 45, 66, 74, 79, 106, 2], [1, 4], [], 1, s110.1, [.tmp 2], 2⟩
theorem ok110 : FnM Tryz.prog 110 fun110 := SC.okM s110 rfl (fn := Tryz.f110) (by kernel_rfl) (by kernel_rfl)
noncomputable def s115 : SC (Tryz.f115.body.getD .skip) := SC.mk' (by simp only [Tryz.f115, go_sem]; rfl)
noncomputable def fun115 : Fun := ⟨[0, 4, 7, 2, 23, 5, 12, 22, 24, 8, 9, 54, 3], [2, 7], [], 1, s115.1, [.cell 2 true 4, .tmp 3], 3⟩
theorem ok115 : FnM Tryz.prog 115 fun115 := SC.okM s115 rfl (fn := Tryz.f115) (by kernel_rfl) (by kernel_rfl)
noncomputable def s117 : SC (Tryz.f117.body.getD .skip) := SC.mk' (by simp only [Tryz.f117, go_sem]; rfl)
noncomputable def fun117 : Fun := ⟨[0, 1, 2], [1, 2], [], 1, s117.1, [.cell 2 true 6], 0⟩
theorem ok117 : FnM Tryz.prog 117 fun117 := SC.okM s117 rfl (fn := Tryz.f117) (by kernel_rfl) (by kernel_rfl)
noncomputable def s118 : SC (Tryz.f118.body.getD .skip) := SC.mk' (by simp only [Tryz.f118, go_sem]; rfl)
noncomputable def fun118 : Fun := ⟨[0, 1, 2, 4], [2], [], 2, s118.1, [.tmp 4], 8⟩
theorem ok118 : FnM Tryz.prog 118 fun118 := SC.okM s118 rfl (fn := Tryz.f118) (by kernel_rfl) (by kernel_rfl)
noncomputable def s121 : SC (Tryz.f121.body.getD .skip) := SC.mk' (by simp only [Tryz.f121, go_sem]; rfl)
noncomputable def fun121 : Fun := ⟨[0, 1, 2, 7, 4, 6, 17, 28], [2, 4, 5, 7], [], 2, s121.1, [.cell 4 true 63], 14⟩
theorem ok121 : FnM Tryz.prog 121 fun121 := SC.okM s121 rfl (fn := Tryz.f121) (by kernel_rfl) (by kernel_rfl)
noncomputable def s154 : SC (Tryz.f154.body.getD .skip) := SC.mk' (by simp only [Tryz.f154, go_sem]; rfl)
noncomputable def fun154 : Fun := ⟨[0, 1, 2, 4, 6, 7, 13, 3, 105, 10, 30, 11, 16, 17, 22, 31, 64, 14, 15, 84, 91, 18, 101, 106, 113, 120, 8, 9], [3, 4, 6, 7, 11, 13, 17], [], 3, s154.1, [.cell 6 true 11, .cell 7 true 63, .tmp 8, .tmp 9], 14⟩
theorem ok154 : FnM Tryz.prog 154 fun154 := SC.okM s154 rfl (fn := Tryz.f154) (by kernel_rfl) (by kernel_rfl)
noncomputable def s174 : SC (Tryz.f174.body.getD .skip) := SC.mk' (by simp only [Tryz.f174, go_sem]; rfl)
noncomputable def fun174 : Fun := ⟨[0, 1, 2, 3, 4, 5, 10, 13, 14, 6, 12, 25, 33, 44, 49, 67, 11], [5, 6, 10, 13], [], 5, s174.1, [.cell 10 true 8, .tmp 11], 12⟩
theorem ok174 : FnM Tryz.prog 174 fun174 := SC.okM s174 rfl (fn := Tryz.f174) (by kernel_rfl) (by kernel_rfl)
noncomputable def s196 : SC (Tryz.f196.body.getD .skip) := SC.mk' (by simp only [Tryz.f196, go_sem]; rfl)
noncomputable def fun196 : Fun := ⟨[0, 3, 4, 5, 6, 28, 44, 64, 95, 2], [5], [], 1, s196.1, [.tmp 2], 2⟩
theorem ok196 : FnM Tryz.prog 196 fun196 := SC.okM s196 rfl (fn := Tryz.f196) (by kernel_rfl) (by kernel_rfl)
noncomputable def s208 : SC (Tryz.f208.body.getD .skip) := SC.mk' (by simp only [Tryz.f208, go_sem]; rfl)
noncomputable def fun208 : Fun := ⟨[0, 1, 2, 3, 4], [2, 3], [], 2, s208.1, [.tmp 4], 0⟩
theorem ok208 : FnM Tryz.prog 208 fun208 := SC.okM s208 rfl (fn := Tryz.f208) (by kernel_rfl) (by kernel_rfl)
noncomputable def s210 : SC (Tryz.f210.body.getD .skip) := SC.mk' (by simp only [Tryz.f210, go_sem]; rfl)
noncomputable def fun210 : Fun := ⟨[0, 1, 2, 6, 7, 11, 15, 4, 5], [2], [], 2, s210.1, [.tmp 4, .tmp 5], 0⟩
theorem ok210 : FnM Tryz.prog 210 fun210 := SC.okM s210 rfl (fn := Tryz.f210) (by kernel_rfl) (by kernel_rfl)
noncomputable def s221 : SC (Tryz.f221.body.getD .skip) := SC.mk' (by simp only [Tryz.f221, go_sem]; rfl)
noncomputable def fun221 : Fun := ⟨[0, 1, 2, 3, 6], [3, 6], [], 3, s221.1, [.cell 6 true 63], 2⟩
theorem ok221 : FnM Tryz.prog 221 fun221 := SC.okM s221 rfl (fn := Tryz.f221) (by kernel_rfl) (by kernel_rfl)
noncomputable def s222 : SC (Tryz.f222.body.getD .skip) := SC.mk' (by simp only [Tryz.f222, go_sem]; rfl)
noncomputable def fun222 : Fun := ⟨[0, 1, 6, 5, 9, 4, 8, 10, 11, 13, 14, 2, 12, 7, 29, 43, 59, 65, 89, 106, 114, 143, 3], [1, 2, 4, 5, 6, 7, 11, 14], [], 1, s222.1, [.cell 2 true 63, .tmp 3], 10⟩
theorem ok222 : FnM Tryz.prog 222 fun222 := SC.okM s222 rfl (fn := Tryz.f222) (by kernel_rfl) (by kernel_rfl)
noncomputable def s223 : SC (Tryz.f223.body.getD .skip) := SC.mk' (by simp only [Tryz.f223, go_sem]; rfl)
noncomputable def fun223 : Fun := ⟨[0, 3, 8, 7, 1, 6, 2, 20, 9], [1, 2, 3, 4, 8], [], 1, s223.1, [.cell 2 true 7], 10⟩
theorem ok223 : FnM Tryz.prog 223 fun223 := SC.okM s223 rfl (fn := Tryz.f223) (by kernel_rfl) (by kernel_rfl)
noncomputable def s246 : SC (Tryz.f246.body.getD .skip) := SC.mk' (by simp only [Tryz.f246, go_sem]; rfl)
noncomputable def fun246 : Fun := ⟨[0, 1, 2, 4, 5, 7, 8, 9, 19, 6], [2, 4, 5, 7, 8], [], 2, s246.1, [.cell 4 true 8, .cell 5 true 7, .tmp 6], 8⟩
theorem ok246 : FnM Tryz.prog 246 fun246 := SC.okM s246 rfl (fn := Tryz.f246) (by kernel_rfl) (by kernel_rfl)
noncomputable def s247 : SC (Tryz.f247.body.getD .skip) := SC.mk' (by simp only [Tryz.f247, go_sem]; rfl)
noncomputable def fun247 : Fun := ⟨[0, 2], [], [], 1, s247.1, [.tmp 2], 1⟩
theorem ok247 : FnM Tryz.prog 247 fun247 := SC.okM s247 rfl (fn := Tryz.f247) (by kernel_rfl) (by kernel_rfl)
noncomputable def s252 : SC (Tryz.f252.body.getD .skip) := SC.mk' (by simp only [Tryz.f252, go_sem]; rfl)
noncomputable def fun252 : Fun := ⟨[0, 1, 2], [1, 2], [], 1, s252.1, [.cell 2 true 8], 1⟩
theorem ok252 : FnM Tryz.prog 252 fun252 := SC.okM s252 rfl (fn := Tryz.f252) (by kernel_rfl) (by kernel_rfl)
noncomputable def s289 : SC (Tryz.f289.body.getD .skip) := SC.mk' (by simp only [Tryz.f289, go_sem]; rfl)
noncomputable def fun289 : Fun := ⟨[0, 4, 2], [], [], 1, s289.1, [.tmp 2], 0⟩
theorem ok289 : FnM Tryz.prog 289 fun289 := SC.okM s289 rfl (fn := Tryz.f289) (by kernel_rfl) (by kernel_rfl)
noncomputable def s292 : SC (Tryz.f292.body.getD .skip) := SC.mk' (by simp only [Tryz.f292, go_sem]; rfl)
noncomputable def fun292 : Fun := ⟨[0, 2], [], [], 1, s292.1, [.tmp 2], 0⟩
theorem ok292 : FnM Tryz.prog 292 fun292 := SC.okM s292 rfl (fn := Tryz.f292) (by kernel_rfl) (by kernel_rfl)
noncomputable def s298 : SC (Tryz.f298.body.getD .skip) := SC.mk' (by simp only [Tryz.f298, go_sem]; rfl)
noncomputable def fun298 : Fun := ⟨[0, 1, 2, 3, 8, 11, 4, 5, 10, 12, 18, 27, 43, 9], [4, 5, 8, 11], [], 4, s298.1, [.cell 8 true 4, .tmp 9], 10⟩
theorem ok298 : FnM Tryz.prog 298 fun298 := SC.okM s298 rfl (fn := Tryz.f298) (by kernel_rfl) (by kernel_rfl)
noncomputable def s302 : SC (Tryz.f302.body.getD .skip) := SC.mk' (by simp only [Tryz.f302, go_sem]; rfl)
noncomputable def fun302 : Fun := ⟨[0, 1, 2, 6], [], [], 3, s302.1, [.tmp 6], 0⟩
theorem ok302 : FnM Tryz.prog 302 fun302 := SC.okM s302 rfl (fn := Tryz.f302) (by kernel_rfl) (by kernel_rfl)
noncomputable def s313 : SC (Tryz.f313.body.getD .skip) := SC.mk' (by simp only [Tryz.f313, go_sem]; rfl)
noncomputable def fun313 : Fun := ⟨[0, 1, 2, 3, 4, 12, 10, 13, 23, 11], [10, 12], [], 5, s313.1, [.cell 10 true 7, .tmp 11], 2⟩
theorem ok313 : FnM Tryz.prog 313 fun313 := SC.okM s313 rfl (fn := Tryz.f313) (by kernel_rfl) (by kernel_rfl)
noncomputable def s317 : SC (Tryz.f317.body.getD .skip) := SC.mk' (by simp only [Tryz.f317, go_sem]; rfl)
noncomputable def fun317 : Fun := ⟨[0, 1, 5, 2, 10, 20, 4], [2], [], 2, s317.1, [.tmp 4], 0⟩
theorem ok317 : FnM Tryz.prog 317 fun317 := SC.okM s317 rfl (fn := Tryz.f317) (by kernel_rfl) (by kernel_rfl)
noncomputable def s319 : SC (Tryz.f319.body.getD .skip) := SC.mk' (by simp only [Tryz.f319, go_sem]; rfl)
noncomputable def fun319 : Fun := ⟨[0, 1, 4, 6, 7, 14, 22, 5], [4, 6], [], 2, s319.1, [.cell 4 true 26, .tmp 5], 1⟩
theorem ok319 : FnM Tryz.prog 319 fun319 := SC.okM s319 rfl (fn := Tryz.f319) (by kernel_rfl) (by kernel_rfl)
noncomputable def s324 : SC (Tryz.f324.body.getD .skip) := SC.mk' (by simp only [Tryz.f324, go_sem]; rfl)
noncomputable def fun324 : Fun := ⟨[0, 1, 2, 4], [2], [], 2, s324.1, [.tmp 4], 0⟩
theorem ok324 : FnM Tryz.prog 324 fun324 := SC.okM s324 rfl (fn := Tryz.f324) (by kernel_rfl) (by kernel_rfl)
noncomputable def s349 : SC (Tryz.f349.body.getD .skip) := SC.mk' (by simp only [Tryz.f349, go_sem]; rfl)
noncomputable def fun349 : Fun := ⟨[0, 1, 4], [], [], 2, s349.1, [.tmp 4], 1⟩
theorem ok349 : FnM Tryz.prog 349 fun349 := SC.okM s349 rfl (fn := Tryz.f349) (by kernel_rfl) (by kernel_rfl)
noncomputable def s359 : SC (Tryz.f359.body.getD .skip) := SC.mk' (by simp only [Tryz.f359, go_sem]; rfl)
noncomputable def fun359 : Fun := ⟨[0, 1, 2, 4, 5], [2], [], 2, s359.1, [.tmp 4, .tmp 5], 4⟩
theorem ok359 : FnM Tryz.prog 359 fun359 := SC.okM s359 rfl (fn := Tryz.f359) (by kernel_rfl) (by kernel_rfl)
noncomputable def s390 : SC (Tryz.f390.body.getD .skip) := SC.mk' (by simp only [Tryz.f390, go_sem]; rfl)
noncomputable def fun390 : Fun := ⟨[0, 1, 2, 4, 3, 6, 7, 9, 20, 37, 54, 58, 8], [3, 4, 6, 7], [], 3, s390.1, [.cell 6 true 11, .cell 7 true 5, .tmp 8], 3⟩
theorem ok390 : FnM Tryz.prog 390 fun390 := SC.okM s390 rfl (fn := Tryz.f390) (by kernel_rfl) (by kernel_rfl)
noncomputable def s391 : SC (Tryz.f391.body.getD .skip) := SC.mk' (by simp only [Tryz.f391, go_sem]; rfl)
noncomputable def fun391 : Fun := ⟨[0, 1, 5, 6, 7, 12, 19, 29, 4], [], [], 2, s391.1, [.tmp 4], 7⟩
theorem ok391 : FnM Tryz.prog 391 fun391 := SC.okM s391 rfl (fn := Tryz.f391) (by kernel_rfl) (by kernel_rfl)
noncomputable def s392 : SC (Tryz.f392.body.getD .skip) := SC.mk' (by simp only [Tryz.f392, go_sem]; rfl)
noncomputable def fun392 : Fun := ⟨[0, 1, 3], [], [], 2, s392.1, [.tmp 3], 0⟩
theorem ok392 : FnM Tryz.prog 392 fun392 := SC.okM s392 rfl (fn := Tryz.f392) (by kernel_rfl) (by kernel_rfl)
noncomputable def s403 : SC (Tryz.f403.body.getD .skip) := SC.mk' (by simp only [Tryz.f403, go_sem]; rfl)
noncomputable def fun403 : Fun := ⟨[0, 1, 2, 3, 24, 9, 45, 6, 7, 22, 43, 11, 19, 23, 25, 37, 44, 46, 53], [3, 9, 11], [], 3, s403.1, [.tmp 6, .tmp 7], 9⟩
theorem ok403 : FnM Tryz.prog 403 fun403 := SC.okM s403 rfl (fn := Tryz.f403) (by kernel_rfl) (by kernel_rfl)
noncomputable def s411 : SC (Tryz.f411.body.getD .skip) := SC.mk' (by simp only [Tryz.f411, go_sem]; rfl)
noncomputable def fun411 : Fun := ⟨[0, 4, 2, 12, 17, 47, 3], [2], [], 1, s411.1, [.cell 2 true 5, .tmp 3], 0⟩
theorem ok411 : FnM Tryz.prog 411 fun411 := SC.okM s411 rfl (fn := Tryz.f411) (by kernel_rfl) (by kernel_rfl)
noncomputable def s415 : SC (Tryz.f415.body.getD .skip) := SC.mk' (by simp only [Tryz.f415, go_sem]; rfl)
noncomputable def fun415 : Fun := ⟨[0, 2], [], [], 1, s415.1, [.tmp 2], 0⟩
theorem ok415 : FnM Tryz.prog 415 fun415 := SC.okM s415 rfl (fn := Tryz.f415) (by kernel_rfl) (by kernel_rfl)
noncomputable def s424 : SC (Tryz.f424.body.getD .skip) := SC.mk' (by simp only [Tryz.f424, go_sem]; rfl)
noncomputable def fun424 : Fun := ⟨[0, 1, 3, 2, 4, 5, 11, 7, 6], [2, 3, 4, 5], [], 2, s424.1, [.cell 4 true 11, .cell 5 true 26, .tmp 6], 2⟩
theorem ok424 : FnM Tryz.prog 424 fun424 := SC.okM s424 rfl (fn := Tryz.f424) (by kernel_rfl) (by kernel_rfl)
noncomputable def s429 : SC (Tryz.f429.body.getD .skip) := SC.mk' (by simp only [Tryz.f429, go_sem]; rfl)
noncomputable def fun429 : Fun := ⟨[0, 1, 2, 9, 3, 8, 7, 10, 14, 22, 38, 6], [3, 10], [], 3, s429.1, [.tmp 6], 4⟩
theorem ok429 : FnM Tryz.prog 429 fun429 := SC.okM s429 rfl (fn := Tryz.f429) (by kernel_rfl) (by kernel_rfl)
noncomputable def s434 : SC (Tryz.f434.body.getD .skip) := SC.mk' (by simp only [Tryz.f434, go_sem]; rfl)
noncomputable def fun434 : Fun := ⟨[0, 1, 2, 9, 11, 8, 10, 17, 31, 6, 7], [], [], 3, s434.1, [.tmp 6, .tmp 7], 3⟩
theorem ok434 : FnM Tryz.prog 434 fun434 := SC.okM s434 rfl (fn := Tryz.f434) (by kernel_rfl) (by kernel_rfl)
noncomputable def s435 : SC (Tryz.f435.body.getD .skip) := SC.mk' (by simp only [Tryz.f435, go_sem]; rfl)
noncomputable def fun435 : Fun := ⟨[0, 1, 2, 4], [2], [], 2, s435.1, [.tmp 4], 2⟩
theorem ok435 : FnM Tryz.prog 435 fun435 := SC.okM s435 rfl (fn := Tryz.f435) (by kernel_rfl) (by kernel_rfl)
noncomputable def s461 : SC (Tryz.f461.body.getD .skip) := SC.mk' (by simp only [Tryz.f461, go_sem]; rfl)
noncomputable def fun461 : Fun := ⟨[0, 1, 2, 6, 3, 8, 9, 16, 25, 7], [3, 6], [], 3, s461.1, [.cell 6 true 11, .tmp 7], 2⟩
theorem ok461 : FnM Tryz.prog 461 fun461 := SC.okM s461 rfl (fn := Tryz.f461) (by kernel_rfl) (by kernel_rfl)
noncomputable def s470 : SC (Tryz.f470.body.getD .skip) := SC.mk' (by simp only [Tryz.f470, go_sem]; rfl)
noncomputable def fun470 : Fun := ⟨[0, 1, 2, 4, 6, 7, 15, 3, 9, 11, 56, 12, 13, 16, 10, 32, 36, 47, 49, 73, 90, 94, 101, 109, 8], [3, 4, 6, 7, 9, 12], [], 3, s470.1, [.cell 6 true 11, .cell 7 true 5, .tmp 8], 2⟩
theorem ok470 : FnM Tryz.prog 470 fun470 := SC.okM s470 rfl (fn := Tryz.f470) (by kernel_rfl) (by kernel_rfl)
noncomputable def s486 : SC (Tryz.f486.body.getD .skip) := SC.mk' (by simp only [Tryz.f486, go_sem]; rfl)
noncomputable def fun486 : Fun := ⟨[0, 1, 2, 4, 5, 13, 3], [1, 2, 4], [], 1, s486.1, [.cell 2 true 26, .tmp 3], 1⟩
theorem ok486 : FnM Tryz.prog 486 fun486 := SC.okM s486 rfl (fn := Tryz.f486) (by kernel_rfl) (by kernel_rfl)
noncomputable def s494 : SC (Tryz.f494.body.getD .skip) := SC.mk' (by simp only [Tryz.f494, go_sem]; rfl)
noncomputable def fun494 : Fun := ⟨[0, 1, 2, 3], [2], [], 2, s494.1, [.tmp 3], 0⟩
theorem ok494 : FnM Tryz.prog 494 fun494 := SC.okM s494 rfl (fn := Tryz.f494) (by kernel_rfl) (by kernel_rfl)
noncomputable def s495 : SC (Tryz.f495.body.getD .skip) := SC.mk' (by simp only [Tryz.f495, go_sem]; rfl)
noncomputable def fun495 : Fun := ⟨[0, 1, 4, 11, 23, 30], [], [], 2, s495.1, [], 4⟩
theorem ok495 : FnM Tryz.prog 495 fun495 := SC.okM s495 rfl (fn := Tryz.f495) (by kernel_rfl) (by kernel_rfl)
noncomputable def s517 : SC (Tryz.f517.body.getD .skip) := SC.mk' (by simp only [Tryz.f517, go_sem]; rfl)
noncomputable def fun517 : Fun := ⟨[0, 1, 2, 3, 6, 21, 27, 7], [3, 6], [], 3, s517.1, [.cell 6 true 11, .tmp 7], 1⟩
theorem ok517 : FnM Tryz.prog 517 fun517 := SC.okM s517 rfl (fn := Tryz.f517) (by kernel_rfl) (by kernel_rfl)
noncomputable def s521 : SC (Tryz.f521.body.getD .skip) := SC.mk' (by simp only [Tryz.f521, go_sem]; rfl)
noncomputable def fun521 : Fun := ⟨[0, 1, 2, 4, 9, 5], [2, 4], [], 2, s521.1, [.cell 4 true 8, .tmp 5], 1⟩
theorem ok521 : FnM Tryz.prog 521 fun521 := SC.okM s521 rfl (fn := Tryz.f521) (by kernel_rfl) (by kernel_rfl)
noncomputable def s541 : SC (Tryz.f541.body.getD .skip) := SC.mk' (by simp only [Tryz.f541, go_sem]; rfl)
noncomputable def fun541 : Fun := ⟨[0, 1, 2, 3, 15, 23, 6], [3], [], 3, s541.1, [.tmp 6], 1⟩
theorem ok541 : FnM Tryz.prog 541 fun541 := SC.okM s541 rfl (fn := Tryz.f541) (by kernel_rfl) (by kernel_rfl)
end Go.M
