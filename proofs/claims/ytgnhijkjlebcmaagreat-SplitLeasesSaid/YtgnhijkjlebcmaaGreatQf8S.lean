/-
  The codes of functions, as the machine takes them.
  No condition: definitions and lemmas.
-/
import Derived.Test.YtgnhijkjlebcmaaGreatQtyS
set_option linter.all false
set_option maxRecDepth 100000
set_option maxHeartbeats 4000000
namespace Go.M
open Go Go.Proofs
open Go.Eng (SOp SOper SCode sizeP aggP zerosOf bytesP zeroVal stripCode stripOps stripOper strip stripParts kindsOf kinds2)
noncomputable def s8 : SC (Tryz.f8.body.getD .skip) := SC.mk' (by simp only [Tryz.f8, go_sem]; rfl)
noncomputable def fun8 : Fun := ⟨[0, 1, 2, 4, 5, 12, 3], [1, 2, 4], [], 1, s8.1, [.cell 2 true 23, .tmp 3], 195⟩
theorem ok8 : FnM Tryz.prog 8 fun8 := SC.okM s8 rfl (fn := Tryz.f8) (by kernel_rfl) (by kernel_rfl)
noncomputable def s10 : SC (Tryz.f10.body.getD .skip) := SC.mk' (by simp only [Tryz.f10, go_sem]; rfl)
noncomputable def fun10 : Fun := ⟨[0, 1, 2, 4, 7, 8, 9, 3, 19, 36, 5, 6], [2, 3, 4, 8], [], 2, s10.1, [.cell 4 true 23, .tmp 5, .tmp 6], 260⟩
theorem ok10 : FnM Tryz.prog 10 fun10 := SC.okM s10 rfl (fn := Tryz.f10) (by kernel_rfl) (by kernel_rfl)
noncomputable def s16 : SC (Tryz.f16.body.getD .skip) := SC.mk' (by simp only [Tryz.f16, go_sem]; rfl)
noncomputable def fun16 : Fun := ⟨[2, 1, 3, 5, 0], [1, 2], [], 0, s16.1, [.tmp 0], 1430⟩
theorem ok16 : FnM Tryz.prog 16 fun16 := SC.okM s16 rfl (fn := Tryz.f16) (by kernel_rfl) (by kernel_rfl)
noncomputable def s37 : SC (Tryz.f37.body.getD .skip) := SC.mk' (by simp only [Tryz.f37, go_sem]; rfl)
noncomputable def fun37 : Fun := ⟨[0, 1, 5, 2, 10, 20, 4], [2], [], 2, s37.1, [.tmp 4], 0⟩
theorem ok37 : FnM Tryz.prog 37 fun37 := SC.okM s37 rfl (fn := Tryz.f37) (by kernel_rfl) (by kernel_rfl)
noncomputable def s71 : SC (Tryz.f71.body.getD .skip) := SC.mk' (by simp only [Tryz.f71, go_sem]; rfl)
noncomputable def fun71 : Fun := ⟨[0, 1, 2, 3, 11, 8, 9, 12, 4, 5, 22, 10], [4, 5, 8, 9], [], 4, s71.1, [.cell 8 true 11, .cell 9 true 26, .tmp 10], 845⟩
theorem ok71 : FnM Tryz.prog 71 fun71 := SC.okM s71 rfl (fn := Tryz.f71) (by kernel_rfl) (by kernel_rfl)
noncomputable def s73 : SC (Tryz.f73.body.getD .skip) := SC.mk' (by simp only [Tryz.f73, go_sem]; rfl)
noncomputable def fun73 : Fun := ⟨[0, 1, 2, 3, 4, 29, 7, 27, 10, 24, 28, 30, 6, 51, 61, 67, 5], [2, 3, 4], [], 2, s73.1, [.cell 4 true 26, .tmp 5], 195⟩
theorem ok73 : FnM Tryz.prog 73 fun73 := SC.okM s73 rfl (fn := Tryz.f73) (by kernel_rfl) (by kernel_rfl)
noncomputable def s126 : SC (Tryz.f126.body.getD .skip) := SC.mk' (by simp only [Tryz.f126, go_sem]; rfl)
noncomputable def fun126 : Fun := ⟨[0, 1, 4], [], [], 2, s126.1, [.tmp 4], 65⟩
theorem ok126 : FnM Tryz.prog 126 fun126 := SC.okM s126 rfl (fn := Tryz.f126) (by kernel_rfl) (by kernel_rfl)
noncomputable def s134 : SC (Tryz.f134.body.getD .skip) := SC.mk' (by simp only [Tryz.f134, go_sem]; rfl)
noncomputable def fun134 : Fun := ⟨[0, 1, 2, 8, 4, 5, 7, 15, 23, 9, 11, 6], [2, 4, 5], [37], 2, s134.1, [.cell 4 true 2, .cell 5 true 7, .tmp 6], 260⟩
theorem ok134 : FnM Tryz.prog 134 fun134 := SC.okM s134 rfl (fn := Tryz.f134) (by kernel_rfl) (by kernel_rfl)
noncomputable def s139 : SC (Tryz.f139.body.getD .skip) := SC.mk' (by simp only [Tryz.f139, go_sem]; rfl)
noncomputable def fun139 : Fun := ⟨[0, 2], [], [], 1, s139.1, [.tmp 2], 0⟩
theorem ok139 : FnM Tryz.prog 139 fun139 := SC.okM s139 rfl (fn := Tryz.f139) (by kernel_rfl) (by kernel_rfl)
noncomputable def s165 : SC (Tryz.f165.body.getD .skip) := SC.mk' (by simp only [Tryz.f165, go_sem]; rfl)
noncomputable def fun165 : Fun := ⟨[0, 1, 6, 5, 9, 4, 8, 10, 11, 13, 14, 2, 12, 7, 29, 43, 59, 65, 89, 106, 114, 143, 3], [1, 2, 4, 5, 6, 7, 11, 14], [], 1, s165.1, [.cell 2 true 63, .tmp 3], 650⟩
theorem ok165 : FnM Tryz.prog 165 fun165 := SC.okM s165 rfl (fn := Tryz.f165) (by kernel_rfl) (by kernel_rfl)
noncomputable def s186 : SC (Tryz.f186.body.getD .skip) := SC.mk' (by simp only [Tryz.f186, go_sem]; rfl)
noncomputable def fun186 : Fun := ⟨[0, 3, 6, 4, 5, 44, 71, 106, 134, 156, 2], [4, 5], [], 1, s186.1, [.tmp 2], 715⟩
theorem ok186 : FnM Tryz.prog 186 fun186 := SC.okM s186 rfl (fn := Tryz.f186) (by kernel_rfl) (by kernel_rfl)
noncomputable def s189 : SC (Tryz.f189.body.getD .skip) := SC.mk' (by simp only [Tryz.f189, go_sem]; rfl)
noncomputable def fun189 : Fun := ⟨[0, 1, 5, 2], [1], [], 1, s189.1, [.tmp 2], 195⟩
theorem ok189 : FnM Tryz.prog 189 fun189 := SC.okM s189 rfl (fn := Tryz.f189) (by kernel_rfl) (by kernel_rfl)
noncomputable def s215 : SC (Tryz.f215.body.getD .skip) := SC.mk' (by simp only [Tryz.f215, go_sem]; rfl)
noncomputable def fun215 : Fun := ⟨[0, 1, 4, 3, 8, 2], [1], [], 1, s215.1, [.tmp 2], 0⟩
theorem ok215 : FnM Tryz.prog 215 fun215 := SC.okM s215 rfl (fn := Tryz.f215) (by kernel_rfl) (by kernel_rfl)
noncomputable def s225 : SC (Tryz.f225.body.getD .skip) := SC.mk' (by simp only [Tryz.f225, go_sem]; rfl)
noncomputable def fun225 : Fun := ⟨[0, 1, 3, 4], [], [], 2, s225.1, [.tmp 4], 130⟩
theorem ok225 : FnM Tryz.prog 225 fun225 := SC.okM s225 rfl (fn := Tryz.f225) (by kernel_rfl) (by kernel_rfl)
noncomputable def s273 : SC (Tryz.f273.body.getD .skip) := SC.mk' (by simp only [Tryz.f273, go_sem]; rfl)
noncomputable def fun273 : Fun := ⟨[0, 1, 2, 3, 4, 7, 8, 30, 10, 18, 29, 31, 12, 35, 42, 9], [4, 7, 8], [], 4, s273.1, [.cell 8 true 11, .tmp 9], 195⟩
theorem ok273 : FnM Tryz.prog 273 fun273 := SC.okM s273 rfl (fn := Tryz.f273) (by kernel_rfl) (by kernel_rfl)
noncomputable def s274 : SC (Tryz.f274.body.getD .skip) := SC.mk' (by simp only [Tryz.f274, go_sem]; rfl)
noncomputable def fun274 : Fun := ⟨[0, 4, 2], [], [], 1, s274.1, [.tmp 2], 0⟩
theorem ok274 : FnM Tryz.prog 274 fun274 := SC.okM s274 rfl (fn := Tryz.f274) (by kernel_rfl) (by kernel_rfl)
noncomputable def s287 : SC (Tryz.f287.body.getD .skip) := SC.mk' (by simp only [Tryz.f287, go_sem]; rfl)
noncomputable def fun287 : Fun := ⟨[0, 1, 2, 3, 8, 6, 17, 36, 12, 15, 10, 34, 16, 18, 30, 35, 37, 52, 7], [3, 6, 10, 12], [], 3, s287.1, [.cell 6 true 8, .tmp 7], 1040⟩
theorem ok287 : FnM Tryz.prog 287 fun287 := SC.okM s287 rfl (fn := Tryz.f287) (by kernel_rfl) (by kernel_rfl)
noncomputable def s295 : SC (Tryz.f295.body.getD .skip) := SC.mk' (by simp only [Tryz.f295, go_sem]; rfl)
noncomputable def fun295 : Fun := ⟨[0, 1, 2, 6, 3], [1, 2], [], 1, s295.1, [.cell 2 true 5, .tmp 3], 0⟩
theorem ok295 : FnM Tryz.prog 295 fun295 := SC.okM s295 rfl (fn := Tryz.f295) (by kernel_rfl) (by kernel_rfl)
noncomputable def s313 : SC (Tryz.f313.body.getD .skip) := SC.mk' (by simp only [Tryz.f313, go_sem]; rfl)
noncomputable def fun313 : Fun := ⟨[0, 1, 2, 4, 6, 16, 5], [2, 4], [], 2, s313.1, [.cell 4 true 8, .tmp 5], 195⟩
theorem ok313 : FnM Tryz.prog 313 fun313 := SC.okM s313 rfl (fn := Tryz.f313) (by kernel_rfl) (by kernel_rfl)
noncomputable def s318 : SC (Tryz.f318.body.getD .skip) := SC.mk' (by simp only [Tryz.f318, go_sem]; rfl)
noncomputable def fun318 : Fun := ⟨[0, 1, 19, 4], [], [], 2, s318.1, [.tmp 4], 65⟩
theorem ok318 : FnM Tryz.prog 318 fun318 := SC.okM s318 rfl (fn := Tryz.f318) (by kernel_rfl) (by kernel_rfl)
noncomputable def s344 : SC (Tryz.f344.body.getD .skip) := SC.mk' (by simp only [Tryz.f344, go_sem]; rfl)
noncomputable def fun344 : Fun := ⟨[0, 1, 2, 3, 4, 5, 6, 12, 18, 19, 16, 17, 15, 24, 52, 57, 70, 80, 13, 14], [6, 12, 19], [], 6, s344.1, [.cell 12 true 8, .tmp 13, .tmp 14], 520⟩
theorem ok344 : FnM Tryz.prog 344 fun344 := SC.okM s344 rfl (fn := Tryz.f344) (by kernel_rfl) (by kernel_rfl)
noncomputable def s348 : SC (Tryz.f348.body.getD .skip) := SC.mk' (by simp only [Tryz.f348, go_sem]; rfl)
noncomputable def fun348 : Fun := ⟨[0, 1, 2, 4, 5, 8, 9, 7, 13, 23, 6], [2, 4, 5], [31, 32], 2, s348.1, [.cell 4 true 3, .cell 5 true 7, .tmp 6], 195⟩
theorem ok348 : FnM Tryz.prog 348 fun348 := SC.okM s348 rfl (fn := Tryz.f348) (by kernel_rfl) (by kernel_rfl)
noncomputable def s351 : SC (Tryz.f351.body.getD .skip) := SC.mk' (by simp only [Tryz.f351, go_sem]; rfl)
noncomputable def fun351 : Fun := ⟨[0, 1, 2, 4, 3, 6, 7, 10, 21, 9, 38, 42, 53, 55, 8], [3, 4, 6, 7], [], 3, s351.1, [.cell 6 true 11, .cell 7 true 5, .tmp 8], 195⟩
theorem ok351 : FnM Tryz.prog 351 fun351 := SC.okM s351 rfl (fn := Tryz.f351) (by kernel_rfl) (by kernel_rfl)
noncomputable def s353 : SC (Tryz.f353.body.getD .skip) := SC.mk' (by simp only [Tryz.f353, go_sem]; rfl)
noncomputable def fun353 : Fun := ⟨[0, 1, 5, 6, 7, 12, 19, 29, 4], [], [], 2, s353.1, [.tmp 4], 455⟩
theorem ok353 : FnM Tryz.prog 353 fun353 := SC.okM s353 rfl (fn := Tryz.f353) (by kernel_rfl) (by kernel_rfl)
noncomputable def s360 : SC (Tryz.f360.body.getD .skip) := SC.mk' (by simp only [Tryz.f360, go_sem]; rfl)
noncomputable def fun360 : Fun := ⟨[0, 2], [], [], 1, s360.1, [.tmp 2], 65⟩
theorem ok360 : FnM Tryz.prog 360 fun360 := SC.okM s360 rfl (fn := Tryz.f360) (by kernel_rfl) (by kernel_rfl)
noncomputable def s363 : SC (Tryz.f363.body.getD .skip) := SC.mk' (by simp only [Tryz.f363, go_sem]; rfl)
noncomputable def fun363 : Fun := ⟨[0, 1, 3], [], [], 2, s363.1, [.tmp 3], 0⟩
theorem ok363 : FnM Tryz.prog 363 fun363 := SC.okM s363 rfl (fn := Tryz.f363) (by kernel_rfl) (by kernel_rfl)
noncomputable def s369 : SC (Tryz.f369.body.getD .skip) := SC.mk' (by simp only [Tryz.f369, go_sem]; rfl)
noncomputable def fun369 : Fun := ⟨[0, 1, 4], [], [], 2, s369.1, [.tmp 4], 0⟩
theorem ok369 : FnM Tryz.prog 369 fun369 := SC.okM s369 rfl (fn := Tryz.f369) (by kernel_rfl) (by kernel_rfl)
noncomputable def s373 : SC (Tryz.f373.body.getD .skip) := SC.mk' (by simp only [Tryz.f373, go_sem]; rfl)
noncomputable def fun373 : Fun := ⟨[0, 1, 2, 4], [2], [], 2, s373.1, [.tmp 4], 0⟩
theorem ok373 : FnM Tryz.prog 373 fun373 := SC.okM s373 rfl (fn := Tryz.f373) (by kernel_rfl) (by kernel_rfl)
noncomputable def s376 : SC (Tryz.f376.body.getD .skip) := SC.mk' (by simp only [Tryz.f376, go_sem]; rfl)
noncomputable def fun376 : Fun := ⟨[0, 1, 2, 9, 4], [2], [], 2, s376.1, [.tmp 4], 0⟩
theorem ok376 : FnM Tryz.prog 376 fun376 := SC.okM s376 rfl (fn := Tryz.f376) (by kernel_rfl) (by kernel_rfl)
noncomputable def s378 : SC (Tryz.f378.body.getD .skip) := SC.mk' (by simp only [Tryz.f378, go_sem]; rfl)
noncomputable def fun378 : Fun := ⟨[0, 1, 2, 3, 15, 23, 6], [3], [], 3, s378.1, [.tmp 6], 65⟩
theorem ok378 : FnM Tryz.prog 378 fun378 := SC.okM s378 rfl (fn := Tryz.f378) (by kernel_rfl) (by kernel_rfl)
noncomputable def s409 : SC (Tryz.f409.body.getD .skip) := SC.mk' (by simp only [Tryz.f409, go_sem]; rfl)
noncomputable def fun409 : Fun := ⟨[0, 1, 2, 6, 3, 8, 9, 16, 25, 7], [3, 6], [], 3, s409.1, [.cell 6 true 11, .tmp 7], 130⟩
theorem ok409 : FnM Tryz.prog 409 fun409 := SC.okM s409 rfl (fn := Tryz.f409) (by kernel_rfl) (by kernel_rfl)
noncomputable def s410 : SC (Tryz.f410.body.getD .skip) := SC.mk' (by simp only [Tryz.f410, go_sem]; rfl)
noncomputable def fun410 : Fun := ⟨[0, 1, 8, 5, 7, 9, 16, 4], [], [], 2, s410.1, [.tmp 4], 390⟩
theorem ok410 : FnM Tryz.prog 410 fun410 := SC.okM s410 rfl (fn := Tryz.f410) (by kernel_rfl) (by kernel_rfl)
noncomputable def s415 : SC (Tryz.f415.body.getD .skip) := SC.mk' (by simp only [Tryz.f415, go_sem]; rfl)
noncomputable def fun415 : Fun := ⟨[0, 13, 5, 11, 4, 8, 10, 12, 14, 3, 23, 28, 36, 2], [4], [], 1, s415.1, [.tmp 2], 260⟩
theorem ok415 : FnM Tryz.prog 415 fun415 := SC.okM s415 rfl (fn := Tryz.f415) (by kernel_rfl) (by kernel_rfl)
noncomputable def s421 : SC (Tryz.f421.body.getD .skip) := SC.mk' (by simp only [Tryz.f421, go_sem]; rfl)
noncomputable def fun421 : Fun := ⟨[0, 1, 2, 3, 4], [2], [], 2, s421.1, [.tmp 4], 845⟩
theorem ok421 : FnM Tryz.prog 421 fun421 := SC.okM s421 rfl (fn := Tryz.f421) (by kernel_rfl) (by kernel_rfl)
noncomputable def s434 : SC (Tryz.f434.body.getD .skip) := SC.mk' (by simp only [Tryz.f434, go_sem]; rfl)
noncomputable def fun434 : Fun := ⟨[0, 1, 2, 3, 6, 11], [3, 6], [], 3, s434.1, [.cell 6 true 11], 65⟩
theorem ok434 : FnM Tryz.prog 434 fun434 := SC.okM s434 rfl (fn := Tryz.f434) (by kernel_rfl) (by kernel_rfl)
end Go.M
