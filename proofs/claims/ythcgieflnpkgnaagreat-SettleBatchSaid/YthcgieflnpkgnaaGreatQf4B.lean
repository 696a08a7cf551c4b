/-
  The codes of functions, as the machine takes them.
  No condition: definitions and lemmas.
-/
import Derived.Test.YthcgieflnpkgnaaGreatQtyB
set_option linter.all false
set_option maxRecDepth 100000
set_option maxHeartbeats 4000000
namespace Go.M
open Go Go.Proofs
open Go.Eng (SOp SOper SCode sizeP aggP zerosOf bytesP zeroVal stripCode stripOps stripOper strip stripParts kindsOf)

noncomputable def s4 : SC (Tryz.f4.body.getD .skip) := SC.mk' (by simp only [Tryz.f4, go_sem]; rfl)
noncomputable def fun4 : Fun := ⟨[0, 1, 14, 11, 6, 7, 8, 5, 9, 12, 15, 17, 24, 32, 46, 13, 82, 84, 162, 4], [5, 6, 7, 10, 15], [], 2, s4.1, [.tmp 4], 20⟩
theorem ok4 : FnM Tryz.prog 4 fun4 := SC.okM s4 rfl (fn := Tryz.f4) (by kernel_rfl) (by kernel_rfl)
noncomputable def s10 : SC (Tryz.f10.body.getD .skip) := SC.mk' (by simp only [Tryz.f10, go_sem]; rfl)
noncomputable def fun10 : Fun := ⟨[0, 1, 2, 4], [2], [], 2, s10.1, [.tmp 4], 8⟩
theorem ok10 : FnM Tryz.prog 10 fun10 := SC.okM s10 rfl (fn := Tryz.f10) (by kernel_rfl) (by kernel_rfl)
noncomputable def s16 : SC (Tryz.f16.body.getD .skip) := SC.mk' (by simp only [Tryz.f16, go_sem]; rfl)
noncomputable def fun16 : Fun := ⟨[0, 4, 2, 9, 5, 6, 47, 3], [2, 4], [], 1, s16.1, [.cell 2 true 4, .tmp 3], 3⟩
theorem ok16 : FnM Tryz.prog 16 fun16 := SC.okM s16 rfl (fn := Tryz.f16) (by kernel_rfl) (by kernel_rfl)
noncomputable def s28 : SC (Tryz.f28.body.getD .skip) := SC.mk' (by simp only [Tryz.f28, go_sem]; rfl)
noncomputable def fun28 : Fun := ⟨[0, 2, 4, 5, 12, 3], [2, 4], [], 1, s28.1, [.cell 2 true 8, .tmp 3], 1⟩
theorem ok28 : FnM Tryz.prog 28 fun28 := SC.okM s28 rfl (fn := Tryz.f28) (by kernel_rfl) (by kernel_rfl)
noncomputable def s39 : SC (Tryz.f39.body.getD .skip) := SC.mk' (by simp only [Tryz.f39, go_sem]; rfl)
noncomputable def fun39 : Fun := ⟨[0, 1, 6, 8, 2, 5, 7, 9, 10, 21, 32, 45, 3, 4], [1, 2, 9], [], 1, s39.1, [.cell 2 true 23, .tmp 3, .tmp 4], 17⟩
theorem ok39 : FnM Tryz.prog 39 fun39 := SC.okM s39 rfl (fn := Tryz.f39) (by kernel_rfl) (by kernel_rfl)
noncomputable def s41 : SC (Tryz.f41.body.getD .skip) := SC.mk' (by simp only [Tryz.f41, go_sem]; rfl)
noncomputable def fun41 : Fun := ⟨[0, 1, 2, 9, 8, 19, 31, 34, 6, 7], [], [], 3, s41.1, [.tmp 6, .tmp 7], 0⟩
theorem ok41 : FnM Tryz.prog 41 fun41 := SC.okM s41 rfl (fn := Tryz.f41) (by kernel_rfl) (by kernel_rfl)
noncomputable def s56 : SC (Tryz.f56.body.getD .skip) := SC.mk' (by simp only [Tryz.f56, go_sem]; rfl)
noncomputable def fun56 : Fun := ⟨[0, 1, 2, 11, 5, 6, 63, 86, 3, 38, 109, 129, 12, 23, 28, 37, 62, 76, 85, 108, 116, 117, 128, 4], [2, 3], [], 2, s56.1, [.tmp 4], 1⟩
theorem ok56 : FnM Tryz.prog 56 fun56 := SC.okM s56 rfl (fn := Tryz.f56) (by kernel_rfl) (by kernel_rfl)
noncomputable def s63 : SC (Tryz.f63.body.getD .skip) := SC.mk' (by simp only [Tryz.f63, go_sem]; rfl)
noncomputable def fun63 : Fun := ⟨[0, 1, 3, 5, 8, 4, 6, 7, 39, 44, 58, 64, 73, 78, 89, 2], [1], [], 1, s63.1, [.tmp 2], 2⟩
theorem ok63 : FnM Tryz.prog 63 fun63 := SC.okM s63 rfl (fn := Tryz.f63) (by kernel_rfl) (by kernel_rfl)
noncomputable def s93 : SC (Tryz.f93.body.getD .skip) := SC.mk' (by simp only [Tryz.f93, go_sem]; rfl)
noncomputable def fun93 : Fun := ⟨[0, 4, 1, 10, 5, 2], [1], [], 1, s93.1, [.tmp 2], 0⟩
theorem ok93 : FnM Tryz.prog 93 fun93 := SC.okM s93 rfl (fn := Tryz.f93) (by kernel_rfl) (by kernel_rfl)
noncomputable def s97 : SC (Tryz.f97.body.getD .skip) := SC.mk' (by simp only [Tryz.f97, go_sem]; rfl)
noncomputable def fun97 : Fun := ⟨[0, 1, 2, 6], [], [], 3, s97.1, [.tmp 6], 0⟩
theorem ok97 : FnM Tryz.prog 97 fun97 := SC.okM s97 rfl (fn := Tryz.f97) (by kernel_rfl) (by kernel_rfl)
noncomputable def s120 : SC (Tryz.f120.body.getD .skip) := SC.mk' (by simp only [Tryz.f120, go_sem]; rfl)
noncomputable def fun120 : Fun := ⟨[0, 1, 5, 4, 2, 16, 17, 29, 3], [1, 2, 4, 5], [], 1, s120.1, [.cell 2 true 8, .tmp 3], 13⟩
theorem ok120 : FnM Tryz.prog 120 fun120 := SC.okM s120 rfl (fn := Tryz.f120) (by kernel_rfl) (by kernel_rfl)
noncomputable def s127 : SC (Tryz.f127.body.getD .skip) := SC.mk' (by simp only [Tryz.f127, go_sem]; rfl)
noncomputable def fun127 : Fun := ⟨[0, 1, 4], [], [], 2, s127.1, [.tmp 4], 0⟩
theorem ok127 : FnM Tryz.prog 127 fun127 := SC.okM s127 rfl (fn := Tryz.f127) (by kernel_rfl) (by kernel_rfl)
noncomputable def s146 : SC (Tryz.f146.body.getD .skip) := SC.mk' (by simp only [Tryz.f146, go_sem]; rfl)
noncomputable def fun146 : Fun := ⟨[0, 1, 4], [], [], 2, s146.1, [.tmp 4], 1⟩
theorem ok146 : FnM Tryz.prog 146 fun146 := SC.okM s146 rfl (fn := Tryz.f146) (by kernel_rfl) (by kernel_rfl)
noncomputable def s201 : SC (Tryz.f201.body.getD .skip) := SC.mk' (by simp only [Tryz.f201, go_sem]; rfl)
noncomputable def fun201 : Fun := ⟨[0, 1, 8, 56, 3, 4, 5, 6, 54, 13, 19, 23, 36, 37, 44, 55, 57, 67, 79, 2], [1, 8], [], 1, s201.1, [.tmp 2], 6⟩
theorem ok201 : FnM Tryz.prog 201 fun201 := SC.okM s201 rfl (fn := Tryz.f201) (by kernel_rfl) (by kernel_rfl)
noncomputable def s203 : SC (Tryz.f203.body.getD .skip) := SC.mk' (by simp only [Tryz.f203, go_sem]; rfl)
noncomputable def fun203 : Fun := ⟨[0, 1, 38, 42, 2], [1], [], 1, s203.1, [.tmp 2], 1⟩
theorem ok203 : FnM Tryz.prog 203 fun203 := SC.okM s203 rfl (fn := Tryz.f203) (by kernel_rfl) (by kernel_rfl)
noncomputable def s209 : SC (Tryz.f209.body.getD .skip) := SC.mk' (by simp only [Tryz.f209, go_sem]; rfl)
noncomputable def fun209 : Fun := ⟨[0, 1, 2, 3, 8, 20, 6], [3], [], 3, s209.1, [.tmp 6], 0⟩
theorem ok209 : FnM Tryz.prog 209 fun209 := SC.okM s209 rfl (fn := Tryz.f209) (by kernel_rfl) (by kernel_rfl)
noncomputable def s218 : SC (Tryz.f218.body.getD .skip) := SC.mk' (by simp only [Tryz.f218, go_sem]; rfl)
noncomputable def fun218 : Fun := ⟨[0, 1, 2], [1, 2], [], 1, s218.1, [.cell 2 true 3], 0⟩
theorem ok218 : FnM Tryz.prog 218 fun218 := SC.okM s218 rfl (fn := Tryz.f218) (by kernel_rfl) (by kernel_rfl)
noncomputable def s220 : SC (Tryz.f220.body.getD .skip) := SC.mk' (by simp only [Tryz.f220, go_sem]; rfl)
noncomputable def fun220 : Fun := ⟨[0, 1, 2, 4, 6, 16, 5], [2, 4], [], 2, s220.1, [.cell 4 true 3, .tmp 5], 2⟩
theorem ok220 : FnM Tryz.prog 220 fun220 := SC.okM s220 rfl (fn := Tryz.f220) (by kernel_rfl) (by kernel_rfl)
noncomputable def s227 : SC (Tryz.f227.body.getD .skip) := SC.mk' (by simp only [Tryz.f227, go_sem]; rfl)
noncomputable def fun227 : Fun := ⟨[0, 1, 2, 4, 9, 5], [2, 4], [], 2, s227.1, [.cell 4 true 4, .tmp 5], 1⟩
theorem ok227 : FnM Tryz.prog 227 fun227 := SC.okM s227 rfl (fn := Tryz.f227) (by kernel_rfl) (by kernel_rfl)
noncomputable def s235 : SC (Tryz.f235.body.getD .skip) := SC.mk' (by simp only [Tryz.f235, go_sem]; rfl)
noncomputable def fun235 : Fun := ⟨[0, 1, 2, 3, 4], [2, 3, 4], [], 2, s235.1, [.cell 4 true 63], 4⟩
theorem ok235 : FnM Tryz.prog 235 fun235 := SC.okM s235 rfl (fn := Tryz.f235) (by kernel_rfl) (by kernel_rfl)
noncomputable def s240 : SC (Tryz.f240.body.getD .skip) := SC.mk' (by simp only [Tryz.f240, go_sem]; rfl)
noncomputable def fun240 : Fun := ⟨[0, 1, 2, 6], [], [], 3, s240.1, [.tmp 6], 0⟩
theorem ok240 : FnM Tryz.prog 240 fun240 := SC.okM s240 rfl (fn := Tryz.f240) (by kernel_rfl) (by kernel_rfl)
noncomputable def s243 : SC (Tryz.f243.body.getD .skip) := SC.mk' (by simp only [Tryz.f243, go_sem]; rfl)
noncomputable def fun243 : Fun := ⟨[0, 2], [], [], 1, s243.1, [.tmp 2], 1⟩
theorem ok243 : FnM Tryz.prog 243 fun243 := SC.okM s243 rfl (fn := Tryz.f243) (by kernel_rfl) (by kernel_rfl)
noncomputable def s244 : SC (Tryz.f244.body.getD .skip) := SC.mk' (by simp only [Tryz.f244, go_sem]; rfl)
noncomputable def fun244 : Fun := ⟨[0, 2], [], [], 1, s244.1, [.tmp 2], 1⟩
theorem ok244 : FnM Tryz.prog 244 fun244 := SC.okM s244 rfl (fn := Tryz.f244) (by kernel_rfl) (by kernel_rfl)
noncomputable def s250 : SC (Tryz.f250.body.getD .skip) := SC.mk' (by simp only [Tryz.f250, go_sem]; rfl)
noncomputable def fun250 : Fun := ⟨[0, 1, 2, 3, 4, 6, 11, 5], [2, 3, 4], [], 2, s250.1, [.cell 4 true 3, .tmp 5], 11⟩
theorem ok250 : FnM Tryz.prog 250 fun250 := SC.okM s250 rfl (fn := Tryz.f250) (by kernel_rfl) (by kernel_rfl)
noncomputable def s253 : SC (Tryz.f253.body.getD .skip) := SC.mk' (by simp only [Tryz.f253, go_sem]; rfl)
noncomputable def fun253 : Fun := ⟨[0, 1, 2, 6, 3, 12, 8, 11, 13, 17, 9, 10, 26, 30, 43, 55, 7], [3, 6], [], 3, s253.1, [.cell 6 true 2, .tmp 7], 7⟩
theorem ok253 : FnM Tryz.prog 253 fun253 := SC.okM s253 rfl (fn := Tryz.f253) (by kernel_rfl) (by kernel_rfl)
noncomputable def s301 : SC (Tryz.f301.body.getD .skip) := SC.mk' (by simp only [Tryz.f301, go_sem]; rfl)
noncomputable def fun301 : Fun := ⟨[0, 13, 1, 3, 11, 5, 12, 14, 2], [1, 5], [], 1, s301.1, [.tmp 2], 4⟩
theorem ok301 : FnM Tryz.prog 301 fun301 := SC.okM s301 rfl (fn := Tryz.f301) (by kernel_rfl) (by kernel_rfl)
noncomputable def s308 : SC (Tryz.f308.body.getD .skip) := SC.mk' (by simp only [Tryz.f308, go_sem]; rfl)
noncomputable def fun308 : Fun := ⟨[0, 1, 2], [1, 2], [], 1, s308.1, [.cell 2 true 6], 0⟩
theorem ok308 : FnM Tryz.prog 308 fun308 := SC.okM s308 rfl (fn := Tryz.f308) (by kernel_rfl) (by kernel_rfl)
noncomputable def s320 : SC (Tryz.f320.body.getD .skip) := SC.mk' (by simp only [Tryz.f320, go_sem]; rfl)
noncomputable def fun320 : Fun := ⟨[0, 1, 5, 6, 2, 7, 9, 3, 4], [1, 2, 5, 6], [], 1, s320.1, [.cell 2 true 8, .tmp 3, .tmp 4], 9⟩
theorem ok320 : FnM Tryz.prog 320 fun320 := SC.okM s320 rfl (fn := Tryz.f320) (by kernel_rfl) (by kernel_rfl)
noncomputable def s353 : SC (Tryz.f353.body.getD .skip) := SC.mk' (by simp only [Tryz.f353, go_sem]; rfl)
noncomputable def fun353 : Fun := ⟨[0, 1, 2, 3, 5, 6, 10, 15, 17, 24, 4], [2, 3], [], 2, s353.1, [.tmp 4], 10⟩
theorem ok353 : FnM Tryz.prog 353 fun353 := SC.okM s353 rfl (fn := Tryz.f353) (by kernel_rfl) (by kernel_rfl)
noncomputable def s362 : SC (Tryz.f362.body.getD .skip) := SC.mk' (by simp only [Tryz.f362, go_sem]; rfl)
noncomputable def fun362 : Fun := ⟨[0, 1, 3, 6, 10, 12, 16, 20, 4, 5], [3], [], 2, s362.1, [.tmp 4, .tmp 5], 5⟩
theorem ok362 : FnM Tryz.prog 362 fun362 := SC.okM s362 rfl (fn := Tryz.f362) (by kernel_rfl) (by kernel_rfl)
noncomputable def s364 : SC (Tryz.f364.body.getD .skip) := SC.mk' (by simp only [Tryz.f364, go_sem]; rfl)
noncomputable def fun364 : Fun := ⟨[0, 1, 5, 2], [1], [], 1, s364.1, [.tmp 2], 3⟩
theorem ok364 : FnM Tryz.prog 364 fun364 := SC.okM s364 rfl (fn := Tryz.f364) (by kernel_rfl) (by kernel_rfl)
noncomputable def s395 : SC (Tryz.f395.body.getD .skip) := SC.mk' (by simp only [Tryz.f395, go_sem]; rfl)
noncomputable def fun395 : Fun := ⟨[0, 1, 2, 4], [2], [], 2, s395.1, [.tmp 4], 0⟩
theorem ok395 : FnM Tryz.prog 395 fun395 := SC.okM s395 rfl (fn := Tryz.f395) (by kernel_rfl) (by kernel_rfl)
noncomputable def s398 : SC (Tryz.f398.body.getD .skip) := SC.mk' (by simp only [Tryz.f398, go_sem]; rfl)
noncomputable def fun398 : Fun := ⟨[0, 4, 2], [], [], 1, s398.1, [.tmp 2], 0⟩
theorem ok398 : FnM Tryz.prog 398 fun398 := SC.okM s398 rfl (fn := Tryz.f398) (by kernel_rfl) (by kernel_rfl)
noncomputable def s405 : SC (Tryz.f405.body.getD .skip) := SC.mk' (by simp only [Tryz.f405, go_sem]; rfl)
noncomputable def fun405 : Fun := ⟨[0, 13, 5, 11, 4, 8, 10, 12, 14, 3, 23, 28, 36, 2], [4], [], 1, s405.1, [.tmp 2], 4⟩
theorem ok405 : FnM Tryz.prog 405 fun405 := SC.okM s405 rfl (fn := Tryz.f405) (by kernel_rfl) (by kernel_rfl)
noncomputable def s406 : SC (Tryz.f406.body.getD .skip) := SC.mk' (by simp only [Tryz.f406, go_sem]; rfl)
noncomputable def fun406 : Fun := ⟨[0, 1, 15, 4, 13, 11, 14, 16, 28, 2], [1, 4], [], 1, s406.1, [.tmp 2], 2⟩
theorem ok406 : FnM Tryz.prog 406 fun406 := SC.okM s406 rfl (fn := Tryz.f406) (by kernel_rfl) (by kernel_rfl)
noncomputable def s409 : SC (Tryz.f409.body.getD .skip) := SC.mk' (by simp only [Tryz.f409, go_sem]; rfl)
noncomputable def fun409 : Fun := ⟨[0, 1, 2, 3, 5, 4, 8, 9, 20, 12, 14, 17, 11, 13, 15, 16, 18, 21, 40, 46, 52, 61, 69, 87, 93, 102, 110, 119, 138, 10], [4, 5, 8, 9, 11, 12, 14, 16, 17], [], 4, s409.1, [.cell 8 true 11, .cell 9 true 26, .tmp 10], 11⟩
theorem ok409 : FnM Tryz.prog 409 fun409 := SC.okM s409 rfl (fn := Tryz.f409) (by kernel_rfl) (by kernel_rfl)
noncomputable def s410 : SC (Tryz.f410.body.getD .skip) := SC.mk' (by simp only [Tryz.f410, go_sem]; rfl)
noncomputable def fun410 : Fun := ⟨[0, 1, 2, 3, 4, 6, 11, 5], [2, 3, 4], [], 2, s410.1, [.cell 4 true 3, .tmp 5], 4⟩
theorem ok410 : FnM Tryz.prog 410 fun410 := SC.okM s410 rfl (fn := Tryz.f410) (by kernel_rfl) (by kernel_rfl)
noncomputable def s421 : SC (Tryz.f421.body.getD .skip) := SC.mk' (by simp only [Tryz.f421, go_sem]; rfl)
noncomputable def fun421 : Fun := ⟨[0, 1, 2, 4], [2], [], 2, s421.1, [.tmp 4], 0⟩
theorem ok421 : FnM Tryz.prog 421 fun421 := SC.okM s421 rfl (fn := Tryz.f421) (by kernel_rfl) (by kernel_rfl)
noncomputable def s426 : SC (Tryz.f426.body.getD .skip) := SC.mk' (by simp only [Tryz.f426, go_sem]; rfl)
noncomputable def fun426 : Fun := ⟨[0, 2], [], [], 1, s426.1, [.tmp 2], 0⟩
theorem ok426 : FnM Tryz.prog 426 fun426 := SC.okM s426 rfl (fn := Tryz.f426) (by kernel_rfl) (by kernel_rfl)
noncomputable def s432 : SC (Tryz.f432.body.getD .skip) := SC.mk' (by simp only [Tryz.f432, go_sem]; rfl)
noncomputable def fun432 : Fun := ⟨[0, 1, 4], [], [], 2, s432.1, [.tmp 4], 1⟩
theorem ok432 : FnM Tryz.prog 432 fun432 := SC.okM s432 rfl (fn := Tryz.f432) (by kernel_rfl) (by kernel_rfl)
noncomputable def s433 : SC (Tryz.f433.body.getD .skip) := SC.mk' (by simp only [Tryz.f433, go_sem]; rfl)
noncomputable def fun433 : Fun := ⟨[0, 1, 2, 3, 4], [2], [], 2, s433.1, [.tmp 4], 9⟩
theorem ok433 : FnM Tryz.prog 433 fun433 := SC.okM s433 rfl (fn := Tryz.f433) (by kernel_rfl) (by kernel_rfl)
noncomputable def s439 : SC (Tryz.f439.body.getD .skip) := SC.mk' (by simp only [Tryz.f439, go_sem]; rfl)
noncomputable def fun439 : Fun := ⟨[0, 1, 2], [1], [], 1, s439.1, [.tmp 2], 0⟩
theorem ok439 : FnM Tryz.prog 439 fun439 := SC.okM s439 rfl (fn := Tryz.f439) (by kernel_rfl) (by kernel_rfl)
noncomputable def s472 : SC (Tryz.f472.body.getD .skip) := SC.mk' (by simp only [Tryz.f472, go_sem]; rfl)
noncomputable def fun472 : Fun := ⟨[0, 1, 2, 4, 3, 14, 6, 7, 9, 13, 10, 11, 27, 12, 58, 93, 8], [3, 4, 6, 7, 11, 13], [], 3, s472.1, [.cell 6 true 11, .cell 7 true 26, .tmp 8], 3⟩
theorem ok472 : FnM Tryz.prog 472 fun472 := SC.okM s472 rfl (fn := Tryz.f472) (by kernel_rfl) (by kernel_rfl)
noncomputable def s473 : SC (Tryz.f473.body.getD .skip) := SC.mk' (by simp only [Tryz.f473, go_sem]; rfl)
noncomputable def fun473 : Fun := ⟨[0, 1, 3, 2, 7, 9, 4, 5, 8, 21, 48, 6], [2, 3, 4, 5, 9], [], 2, s473.1, [.cell 4 true 11, .cell 5 true 26, .tmp 6], 2⟩
theorem ok473 : FnM Tryz.prog 473 fun473 := SC.okM s473 rfl (fn := Tryz.f473) (by kernel_rfl) (by kernel_rfl)
noncomputable def s481 : SC (Tryz.f481.body.getD .skip) := SC.mk' (by simp only [Tryz.f481, go_sem]; rfl)
noncomputable def fun481 : Fun := ⟨[0, 1, 2, 4, 7, 12, 17, 3], [1, 2], [], 1, s481.1, [.cell 2 true 7, .tmp 3], 2⟩
theorem ok481 : FnM Tryz.prog 481 fun481 := SC.okM s481 rfl (fn := Tryz.f481) (by kernel_rfl) (by kernel_rfl)
noncomputable def s482 : SC (Tryz.f482.body.getD .skip) := SC.mk' (by simp only [Tryz.f482, go_sem]; rfl)
noncomputable def fun482 : Fun := ⟨[0, 1, 2, 3, 6, 4, 10, 8, 9, 17, 23, 26, 31, 39, 45, 68, 11, 13, 7], [3, 4, 6], [], 3, s482.1, [.cell 6 true 2, .tmp 7], 3⟩
theorem ok482 : FnM Tryz.prog 482 fun482 := SC.okM s482 rfl (fn := Tryz.f482) (by kernel_rfl) (by kernel_rfl)
noncomputable def s487 : SC (Tryz.f487.body.getD .skip) := SC.mk' (by simp only [Tryz.f487, go_sem]; rfl)
noncomputable def fun487 : Fun := ⟨[0, 1, 4], [], [8], 2, s487.1, [.tmp 4], 0⟩
theorem ok487 : FnM Tryz.prog 487 fun487 := SC.okM s487 rfl (fn := Tryz.f487) (by kernel_rfl) (by kernel_rfl)
noncomputable def s488 : SC (Tryz.f488.body.getD .skip) := SC.mk' (by simp only [Tryz.f488, go_sem]; rfl)
noncomputable def fun488 : Fun := ⟨[0, 1, 5, 21, 4], [], [], 2, s488.1, [.tmp 4], 3⟩
theorem ok488 : FnM Tryz.prog 488 fun488 := SC.okM s488 rfl (fn := Tryz.f488) (by kernel_rfl) (by kernel_rfl)
noncomputable def s493 : SC (Tryz.f493.body.getD .skip) := SC.mk' (by simp only [Tryz.f493, go_sem]; rfl)
noncomputable def fun493 : Fun := ⟨[0, 1, 8, 5, 7, 9, 16, 4], [], [], 2, s493.1, [.tmp 4], 2⟩
theorem ok493 : FnM Tryz.prog 493 fun493 := SC.okM s493 rfl (fn := Tryz.f493) (by kernel_rfl) (by kernel_rfl)
noncomputable def s518 : SC (Tryz.f518.body.getD .skip) := SC.mk' (by simp only [Tryz.f518, go_sem]; rfl)
noncomputable def fun518 : Fun := ⟨[0, 1, 2, 4, 14, 20, 3], [1, 2], [], 1, s518.1, [.cell 2 true 4, .tmp 3], 0⟩
theorem ok518 : FnM Tryz.prog 518 fun518 := SC.okM s518 rfl (fn := Tryz.f518) (by kernel_rfl) (by kernel_rfl)
noncomputable def s519 : SC (Tryz.f519.body.getD .skip) := SC.mk' (by simp only [Tryz.f519, go_sem]; rfl)
noncomputable def fun519 : Fun := ⟨[0, 1, 2, 3, 4, 7, 8, 10, 16, 40, 9], [4, 7, 8], [], 4, s519.1, [.cell 8 true 11, .tmp 9], 2⟩
theorem ok519 : FnM Tryz.prog 519 fun519 := SC.okM s519 rfl (fn := Tryz.f519) (by kernel_rfl) (by kernel_rfl)
noncomputable def s523 : SC (Tryz.f523.body.getD .skip) := SC.mk' (by simp only [Tryz.f523, go_sem]; rfl)
noncomputable def fun523 : Fun := ⟨[0, 1, 2, 3, 4, 8, 7, 10, 11, 17, 23, 39, 9], [4, 7, 8], [], 4, s523.1, [.cell 8 true 11, .tmp 9], 7⟩
theorem ok523 : FnM Tryz.prog 523 fun523 := SC.okM s523 rfl (fn := Tryz.f523) (by kernel_rfl) (by kernel_rfl)
noncomputable def s533 : SC (Tryz.f533.body.getD .skip) := SC.mk' (by simp only [Tryz.f533, go_sem]; rfl)
noncomputable def fun533 : Fun := ⟨[0, 8, 3, 6, 5, 7, 9, 14, 2], [], [], 1, s533.1, [.tmp 2], 0⟩
theorem ok533 : FnM Tryz.prog 533 fun533 := SC.okM s533 rfl (fn := Tryz.f533) (by kernel_rfl) (by kernel_rfl)
noncomputable def s540 : SC (Tryz.f540.body.getD .skip) := SC.mk' (by simp only [Tryz.f540, go_sem]; rfl)
noncomputable def fun540 : Fun := ⟨[0, 1, 2, 3, 6, 11], [3, 6], [], 3, s540.1, [.cell 6 true 11], 0⟩
theorem ok540 : FnM Tryz.prog 540 fun540 := SC.okM s540 rfl (fn := Tryz.f540) (by kernel_rfl) (by kernel_rfl)
end Go.M
