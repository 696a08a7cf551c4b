/-
  The codes of functions, as the machine takes them.
  No condition: definitions and lemmas.
-/
import Derived.Test.YtfffmopgodknpaaGreatQtyB
set_option linter.all false
set_option maxRecDepth 100000
set_option maxHeartbeats 4000000
namespace Go.M
open Go Go.Proofs
open Go.Eng (SOp SOper SCode sizeP aggP zerosOf bytesP zeroVal stripCode stripOps stripOper strip stripParts kindsOf)

noncomputable def s8 : SC (Tryz.f8.body.getD .skip) := SC.mk' (by simp only [Tryz.f8, go_sem]; rfl)
noncomputable def fun8 : Fun := ⟨[0, 1, 2, 4, 5, 12, 3], [1, 2, 4], [], 1, s8.1, [.cell 2 true 23, .tmp 3], 195⟩
theorem ok8 : FnM Tryz.prog 8 fun8 := SC.okM s8 rfl (fn := Tryz.f8) (by kernel_rfl) (by kernel_rfl)
noncomputable def s53 : SC (Tryz.f53.body.getD .skip) := SC.mk' (by simp only [Tryz.f53, go_sem]; rfl)
noncomputable def fun53 : Fun := ⟨[0, 1, 2, 3, 11, 8, 9, 12, 4, 5, 22, 10], [4, 5, 8, 9], [], 4, s53.1, [.cell 8 true 11, .cell 9 true 26, .tmp 10], 845⟩
theorem ok53 : FnM Tryz.prog 53 fun53 := SC.okM s53 rfl (fn := Tryz.f53) (by kernel_rfl) (by kernel_rfl)
noncomputable def s57 : SC (Tryz.f57.body.getD .skip) := SC.mk' (by simp only [Tryz.f57, go_sem]; rfl)
noncomputable def fun57 : Fun := ⟨[0, 1, 2, 4, 3, 26, 6, 7, 10, 11, 13, 17, 12, 27, 37, 46, 54, 66, 8, 9], [3, 4, 6, 7], [], 3, s57.1, [.cell 6 true 11, .cell 7 true 63, .tmp 8, .tmp 9], 1040⟩
theorem ok57 : FnM Tryz.prog 57 fun57 := SC.okM s57 rfl (fn := Tryz.f57) (by kernel_rfl) (by kernel_rfl)
noncomputable def s58 : SC (Tryz.f58.body.getD .skip) := SC.mk' (by simp only [Tryz.f58, go_sem]; rfl)
noncomputable def fun58 : Fun := ⟨[0, 1, 5, 2], [1], [], 1, s58.1, [.tmp 2], 195⟩
theorem ok58 : FnM Tryz.prog 58 fun58 := SC.okM s58 rfl (fn := Tryz.f58) (by kernel_rfl) (by kernel_rfl)
noncomputable def s59 : SC (Tryz.f59.body.getD .skip) := SC.mk' (by simp only [Tryz.f59, go_sem]; rfl)
noncomputable def fun59 : Fun := ⟨[0, 1, 2, 6], [], [], 3, s59.1, [.tmp 6], 0⟩
theorem ok59 : FnM Tryz.prog 59 fun59 := SC.okM s59 rfl (fn := Tryz.f59) (by kernel_rfl) (by kernel_rfl)
noncomputable def s85 : SC (Tryz.f85.body.getD .skip) := SC.mk' (by simp only [Tryz.f85, go_sem]; rfl)
noncomputable def fun85 : Fun := ⟨[0, 17, 2, 5, 15, 4, 13, 16, 18, 40, 3], [2], [], 1, s85.1, [.cell 2 true 5, .tmp 3], 65⟩
theorem ok85 : FnM Tryz.prog 85 fun85 := SC.okM s85 rfl (fn := Tryz.f85) (by kernel_rfl) (by kernel_rfl)
noncomputable def s98 : SC (Tryz.f98.body.getD .skip) := SC.mk' (by simp only [Tryz.f98, go_sem]; rfl)
noncomputable def fun98 : Fun := ⟨[0, 1, 2, 4, 6, 9, 10, 11, 3, 18, 24, 7, 8], [3, 4, 6, 11], [], 3, s98.1, [.cell 6 true 63, .tmp 7, .tmp 8], 130⟩
theorem ok98 : FnM Tryz.prog 98 fun98 := SC.okM s98 rfl (fn := Tryz.f98) (by kernel_rfl) (by kernel_rfl)
noncomputable def s101 : SC (Tryz.f101.body.getD .skip) := SC.mk' (by simp only [Tryz.f101, go_sem]; rfl)
noncomputable def fun101 : Fun := ⟨[0, 1, 2, 4, 3, 11, 6, 7, 32, 33, 45, 12, 10, 26, 40, 46, 56, 68, 71, 84, 8, 9], [3, 4, 6, 7, 12], [], 3, s101.1, [.cell 6 true 11, .cell 7 true 63, .tmp 8, .tmp 9], 975⟩
theorem ok101 : FnM Tryz.prog 101 fun101 := SC.okM s101 rfl (fn := Tryz.f101) (by kernel_rfl) (by kernel_rfl)
noncomputable def s104 : SC (Tryz.f104.body.getD .skip) := SC.mk' (by simp only [Tryz.f104, go_sem]; rfl)
noncomputable def fun104 : Fun := ⟨[0, 2, 9, 3], [2], [], 1, s104.1, [.cell 2 true 3, .tmp 3], 0⟩
theorem ok104 : FnM Tryz.prog 104 fun104 := SC.okM s104 rfl (fn := Tryz.f104) (by kernel_rfl) (by kernel_rfl)
noncomputable def s138 : SC (Tryz.f138.body.getD .skip) := SC.mk' (by simp only [Tryz.f138, go_sem]; rfl)
noncomputable def fun138 : Fun := ⟨[0, 3, 4, 5, 6, 28, 50, 60, 86, 114, 133, 139, 153, 2], [3], [], 1, s138.1, [.tmp 2], 520⟩
theorem ok138 : FnM Tryz.prog 138 fun138 := SC.okM s138 rfl (fn := Tryz.f138) (by kernel_rfl) (by kernel_rfl)
noncomputable def s145 : SC (Tryz.f145.body.getD .skip) := SC.mk' (by simp only [Tryz.f145, go_sem]; rfl)
noncomputable def fun145 : Fun := ⟨[0, 1, 2, 4, 5, 13, 3], [1, 2, 4], [], 1, s145.1, [.cell 2 true 26, .tmp 3], 65⟩
theorem ok145 : FnM Tryz.prog 145 fun145 := SC.okM s145 rfl (fn := Tryz.f145) (by kernel_rfl) (by kernel_rfl)
noncomputable def s146 : SC (Tryz.f146.body.getD .skip) := SC.mk' (by simp only [Tryz.f146, go_sem]; rfl)
noncomputable def fun146 : Fun := ⟨[0, 2], [], [], 1, s146.1, [.tmp 2], 0⟩
theorem ok146 : FnM Tryz.prog 146 fun146 := SC.okM s146 rfl (fn := Tryz.f146) (by kernel_rfl) (by kernel_rfl)
noncomputable def s147 : SC (Tryz.f147.body.getD .skip) := SC.mk' (by simp only [Tryz.f147, go_sem]; rfl)
noncomputable def fun147 : Fun := ⟨[0, 4, 1, 10, 5, 2], [1], [], 1, s147.1, [.tmp 2], 0⟩
theorem ok147 : FnM Tryz.prog 147 fun147 := SC.okM s147 rfl (fn := Tryz.f147) (by kernel_rfl) (by kernel_rfl)
noncomputable def s149 : SC (Tryz.f149.body.getD .skip) := SC.mk' (by simp only [Tryz.f149, go_sem]; rfl)
noncomputable def fun149 : Fun := ⟨[0, 1, 2, 3, 4, 8, 14, 11, 17, 12, 13, 19, 21, 28, 15, 9, 10], [8], [], 4, s149.1, [.cell 8 true 11, .tmp 9, .tmp 10], 65⟩
theorem ok149 : FnM Tryz.prog 149 fun149 := SC.okM s149 rfl (fn := Tryz.f149) (by kernel_rfl) (by kernel_rfl)
noncomputable def s151 : SC (Tryz.f151.body.getD .skip) := SC.mk' (by simp only [Tryz.f151, go_sem]; rfl)
noncomputable def fun151 : Fun := ⟨[0, 5, 11, 3, 2], [], [], 1, s151.1, [.tmp 2], 130⟩
theorem ok151 : FnM Tryz.prog 151 fun151 := SC.okM s151 rfl (fn := Tryz.f151) (by kernel_rfl) (by kernel_rfl)
noncomputable def s153 : SC (Tryz.f153.body.getD .skip) := SC.mk' (by simp only [Tryz.f153, go_sem]; rfl)
noncomputable def fun153 : Fun := ⟨[0, 1, 6, 13, 2, 11, 9, 12, 14, 26, 4], [2, 6], [], 2, s153.1, [.tmp 4], 325⟩
theorem ok153 : FnM Tryz.prog 153 fun153 := SC.okM s153 rfl (fn := Tryz.f153) (by kernel_rfl) (by kernel_rfl)
noncomputable def s211 : SC (Tryz.f211.body.getD .skip) := SC.mk' (by simp only [Tryz.f211, go_sem]; rfl)
noncomputable def fun211 : Fun := ⟨[0, 1, 2, 4, 6, 11, 3, 8, 9, 13, 22, 33, 44, 48, 52, 7], [3, 4, 6], [], 3, s211.1, [.cell 6 true 4, .tmp 7], 65⟩
theorem ok211 : FnM Tryz.prog 211 fun211 := SC.okM s211 rfl (fn := Tryz.f211) (by kernel_rfl) (by kernel_rfl)
noncomputable def s216 : SC (Tryz.f216.body.getD .skip) := SC.mk' (by simp only [Tryz.f216, go_sem]; rfl)
noncomputable def fun216 : Fun := ⟨[0, 1, 2, 3, 8, 11, 4, 5, 10, 12, 18, 27, 43, 9], [4, 5, 8, 11], [], 4, s216.1, [.cell 8 true 4, .tmp 9], 650⟩
theorem ok216 : FnM Tryz.prog 216 fun216 := SC.okM s216 rfl (fn := Tryz.f216) (by kernel_rfl) (by kernel_rfl)
noncomputable def s217 : SC (Tryz.f217.body.getD .skip) := SC.mk' (by simp only [Tryz.f217, go_sem]; rfl)
noncomputable def fun217 : Fun := ⟨[0, 1, 8, 56, 3, 4, 5, 6, 54, 13, 19, 23, 36, 37, 44, 55, 57, 67, 79, 2], [1, 8], [], 1, s217.1, [.tmp 2], 390⟩
theorem ok217 : FnM Tryz.prog 217 fun217 := SC.okM s217 rfl (fn := Tryz.f217) (by kernel_rfl) (by kernel_rfl)
noncomputable def s220 : SC (Tryz.f220.body.getD .skip) := SC.mk' (by simp only [Tryz.f220, go_sem]; rfl)
noncomputable def fun220 : Fun := ⟨[0, 1, 4], [], [], 2, s220.1, [.tmp 4], 585⟩
theorem ok220 : FnM Tryz.prog 220 fun220 := SC.okM s220 rfl (fn := Tryz.f220) (by kernel_rfl) (by kernel_rfl)
noncomputable def s223 : SC (Tryz.f223.body.getD .skip) := SC.mk' (by simp only [Tryz.f223, go_sem]; rfl)
noncomputable def fun223 : Fun := ⟨[0, 1, 2, 3, 4], [2], [], 2, s223.1, [.tmp 4], 650⟩
theorem ok223 : FnM Tryz.prog 223 fun223 := SC.okM s223 rfl (fn := Tryz.f223) (by kernel_rfl) (by kernel_rfl)
noncomputable def s227 : SC (Tryz.f227.body.getD .skip) := SC.mk' (by simp only [Tryz.f227, go_sem]; rfl)
noncomputable def fun227 : Fun := ⟨[0, 1, 7, 3, 6, 8, 4, 2], [1], [], 1, s227.1, [.tmp 2], 65⟩
theorem ok227 : FnM Tryz.prog 227 fun227 := SC.okM s227 rfl (fn := Tryz.f227) (by kernel_rfl) (by kernel_rfl)
noncomputable def s281 : SC (Tryz.f281.body.getD .skip) := SC.mk' (by simp only [Tryz.f281, go_sem]; rfl)
noncomputable def fun281 : Fun := ⟨[0, 4, 2], [], [], 1, s281.1, [.tmp 2], 0⟩
theorem ok281 : FnM Tryz.prog 281 fun281 := SC.okM s281 rfl (fn := Tryz.f281) (by kernel_rfl) (by kernel_rfl)
noncomputable def s305 : SC (Tryz.f305.body.getD .skip) := SC.mk' (by simp only [Tryz.f305, go_sem]; rfl)
noncomputable def fun305 : Fun := ⟨[0, 1, 5, 6, 7, 12, 19, 29, 4], [], [], 2, s305.1, [.tmp 4], 130⟩
theorem ok305 : FnM Tryz.prog 305 fun305 := SC.okM s305 rfl (fn := Tryz.f305) (by kernel_rfl) (by kernel_rfl)
noncomputable def s306 : SC (Tryz.f306.body.getD .skip) := SC.mk' (by simp only [Tryz.f306, go_sem]; rfl)
noncomputable def fun306 : Fun := ⟨[0, 1, 3], [], [], 2, s306.1, [.tmp 3], 0⟩
theorem ok306 : FnM Tryz.prog 306 fun306 := SC.okM s306 rfl (fn := Tryz.f306) (by kernel_rfl) (by kernel_rfl)
noncomputable def s317 : SC (Tryz.f317.body.getD .skip) := SC.mk' (by simp only [Tryz.f317, go_sem]; rfl)
noncomputable def fun317 : Fun := ⟨[0, 1, 2, 3, 24, 9, 45, 6, 7, 22, 43, 11, 19, 23, 25, 37, 44, 46, 53], [3, 9, 11], [], 3, s317.1, [.tmp 6, .tmp 7], 585⟩
theorem ok317 : FnM Tryz.prog 317 fun317 := SC.okM s317 rfl (fn := Tryz.f317) (by kernel_rfl) (by kernel_rfl)
noncomputable def s319 : SC (Tryz.f319.body.getD .skip) := SC.mk' (by simp only [Tryz.f319, go_sem]; rfl)
noncomputable def fun319 : Fun := ⟨[0, 1, 4], [], [], 2, s319.1, [.tmp 4], 0⟩
theorem ok319 : FnM Tryz.prog 319 fun319 := SC.okM s319 rfl (fn := Tryz.f319) (by kernel_rfl) (by kernel_rfl)
noncomputable def s320 : SC (Tryz.f320.body.getD .skip) := SC.mk' (by simp only [Tryz.f320, go_sem]; rfl)
noncomputable def fun320 : Fun := ⟨[0, 1, 8, 5, 7, 9, 16, 4], [], [], 2, s320.1, [.tmp 4], 520⟩
theorem ok320 : FnM Tryz.prog 320 fun320 := SC.okM s320 rfl (fn := Tryz.f320) (by kernel_rfl) (by kernel_rfl)
noncomputable def s332 : SC (Tryz.f332.body.getD .skip) := SC.mk' (by simp only [Tryz.f332, go_sem]; rfl)
noncomputable def fun332 : Fun := ⟨[0, 5, 8, 3, 6, 7, 9, 27, 2], [5], [], 1, s332.1, [.tmp 2], 0⟩
theorem ok332 : FnM Tryz.prog 332 fun332 := SC.okM s332 rfl (fn := Tryz.f332) (by kernel_rfl) (by kernel_rfl)
noncomputable def s334 : SC (Tryz.f334.body.getD .skip) := SC.mk' (by simp only [Tryz.f334, go_sem]; rfl)
noncomputable def fun334 : Fun := ⟨[0, 1, 2, 3], [2], [], 2, s334.1, [.tmp 3], 0⟩
theorem ok334 : FnM Tryz.prog 334 fun334 := SC.okM s334 rfl (fn := Tryz.f334) (by kernel_rfl) (by kernel_rfl)
noncomputable def s362 : SC (Tryz.f362.body.getD .skip) := SC.mk' (by simp only [Tryz.f362, go_sem]; rfl)
noncomputable def fun362 : Fun := ⟨[0, 1, 5, 2, 9, 12, 4], [2], [], 2, s362.1, [.tmp 4], 520⟩
theorem ok362 : FnM Tryz.prog 362 fun362 := SC.okM s362 rfl (fn := Tryz.f362) (by kernel_rfl) (by kernel_rfl)
noncomputable def s363 : SC (Tryz.f363.body.getD .skip) := SC.mk' (by simp only [Tryz.f363, go_sem]; rfl)
noncomputable def fun363 : Fun := ⟨[0, 2], [], [], 1, s363.1, [.tmp 2], 65⟩
theorem ok363 : FnM Tryz.prog 363 fun363 := SC.okM s363 rfl (fn := Tryz.f363) (by kernel_rfl) (by kernel_rfl)
noncomputable def s364 : SC (Tryz.f364.body.getD .skip) := SC.mk' (by simp only [Tryz.f364, go_sem]; rfl)
noncomputable def fun364 : Fun := ⟨[0, 2], [], [], 1, s364.1, [.tmp 2], 65⟩
theorem ok364 : FnM Tryz.prog 364 fun364 := SC.okM s364 rfl (fn := Tryz.f364) (by kernel_rfl) (by kernel_rfl)
noncomputable def s366 : SC (Tryz.f366.body.getD .skip) := SC.mk' (by simp only [Tryz.f366, go_sem]; rfl)
noncomputable def fun366 : Fun := ⟨[0, 1, 2, 4], [2], [], 2, s366.1, [.tmp 4], 0⟩
theorem ok366 : FnM Tryz.prog 366 fun366 := SC.okM s366 rfl (fn := Tryz.f366) (by kernel_rfl) (by kernel_rfl)
noncomputable def s376 : SC (Tryz.f376.body.getD .skip) := SC.mk' (by simp only [Tryz.f376, go_sem]; rfl)
noncomputable def fun376 : Fun := ⟨[0, 1, 8, 5, 7, 9, 16, 4], [], [], 2, s376.1, [.tmp 4], 65⟩
theorem ok376 : FnM Tryz.prog 376 fun376 := SC.okM s376 rfl (fn := Tryz.f376) (by kernel_rfl) (by kernel_rfl)
noncomputable def s387 : SC (Tryz.f387.body.getD .skip) := SC.mk' (by simp only [Tryz.f387, go_sem]; rfl)
noncomputable def fun387 : Fun := ⟨[0, 1, 4], [], [], 2, s387.1, [.tmp 4], 65⟩
theorem ok387 : FnM Tryz.prog 387 fun387 := SC.okM s387 rfl (fn := Tryz.f387) (by kernel_rfl) (by kernel_rfl)
end Go.M
