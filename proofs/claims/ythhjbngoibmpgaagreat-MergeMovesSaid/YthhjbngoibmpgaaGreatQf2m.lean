/-
  The codes of functions, as the machine takes them.
  No condition: definitions and lemmas.
-/
import Derived.Test.YthhjbngoibmpgaaGreatQtym
set_option linter.all false
set_option maxRecDepth 100000
set_option maxHeartbeats 4000000
namespace Go.M
open Go Go.Proofs
open Go.Eng (SOp SOper SCode sizeP aggP zerosOf bytesP zeroVal stripCode stripOps stripOper strip stripParts kindsOf)

noncomputable def s32 : SC (Tryz.f32.body.getD .skip) := SC.mk' (by simp only [Tryz.f32, go_sem]; rfl)
noncomputable def fun32 : Fun := ⟨[0, 1, 2, 4, 7, 8, 9, 3, 19, 36, 5, 6], [2, 3, 4, 8], [], 2, s32.1, [.cell 4 true 23, .tmp 5, .tmp 6], 260⟩
theorem ok32 : FnM Tryz.prog 32 fun32 := SC.okM s32 rfl (fn := Tryz.f32) (by kernel_rfl) (by kernel_rfl)
noncomputable def s33 : SC (Tryz.f33.body.getD .skip) := SC.mk' (by simp only [Tryz.f33, go_sem]; rfl)
noncomputable def fun33 : Fun := ⟨[0, 1, 6, 8, 2, 5, 7, 9, 10, 21, 32, 45, 3, 4], [1, 2, 9], [], 1, s33.1, [.cell 2 true 23, .tmp 3, .tmp 4], 1105⟩
theorem ok33 : FnM Tryz.prog 33 fun33 := SC.okM s33 rfl (fn := Tryz.f33) (by kernel_rfl) (by kernel_rfl)
noncomputable def s36 : SC (Tryz.f36.body.getD .skip) := SC.mk' (by simp only [Tryz.f36, go_sem]; rfl)
noncomputable def fun36 : Fun := ⟨[0, 1, 2, 3, 8, 6, 5, 11, 12, 22, 30, 37, 9], [5, 6, 8, 10], [], 4, s36.1, [.cell 8 true 63, .tmp 9], 195⟩
theorem ok36 : FnM Tryz.prog 36 fun36 := SC.okM s36 rfl (fn := Tryz.f36) (by kernel_rfl) (by kernel_rfl)
noncomputable def s51 : SC (Tryz.f51.body.getD .skip) := SC.mk' (by simp only [Tryz.f51, go_sem]; rfl)
noncomputable def fun51 : Fun := ⟨[0, 4, 2, 12, 17, 47, 3], [2], [], 1, s51.1, [.cell 2 true 5, .tmp 3], 0⟩
theorem ok51 : FnM Tryz.prog 51 fun51 := SC.okM s51 rfl (fn := Tryz.f51) (by kernel_rfl) (by kernel_rfl)
noncomputable def s85 : SC (Tryz.f85.body.getD .skip) := SC.mk' (by simp only [Tryz.f85, go_sem]; rfl)
noncomputable def fun85 : Fun := ⟨[0, 1, 2, 11, 5, 6, 63, 86, 3, 38, 109, 129, 12, 23, 28, 37, 62, 76, 85, 108, 116, 117, 128, 4], [2, 3], [], 2, s85.1, [.tmp 4], 65⟩
theorem ok85 : FnM Tryz.prog 85 fun85 := SC.okM s85 rfl (fn := Tryz.f85) (by kernel_rfl) (by kernel_rfl)
noncomputable def s86 : SC (Tryz.f86.body.getD .skip) := SC.mk' (by simp only [Tryz.f86, go_sem]; rfl)
noncomputable def fun86 : Fun := ⟨[0, 1, 2, 3, 8, 20, 6], [3], [], 3, s86.1, [.tmp 6], 0⟩
theorem ok86 : FnM Tryz.prog 86 fun86 := SC.okM s86 rfl (fn := Tryz.f86) (by kernel_rfl) (by kernel_rfl)
noncomputable def s96 : SC (Tryz.f96.body.getD .skip) := SC.mk' (by simp only [Tryz.f96, go_sem]; rfl)
noncomputable def fun96 : Fun := ⟨[0, 1, 2, 4], [2], [], 2, s96.1, [.tmp 4], 520⟩
theorem ok96 : FnM Tryz.prog 96 fun96 := SC.okM s96 rfl (fn := Tryz.f96) (by kernel_rfl) (by kernel_rfl)
noncomputable def s99 : SC (Tryz.f99.body.getD .skip) := SC.mk' (by simp only [Tryz.f99, go_sem]; rfl)
noncomputable def fun99 : Fun := ⟨[0, 1, 3, 6, 2], [1], [], 1, s99.1, [.tmp 2], 0⟩
theorem ok99 : FnM Tryz.prog 99 fun99 := SC.okM s99 rfl (fn := Tryz.f99) (by kernel_rfl) (by kernel_rfl)
noncomputable def s100 : SC (Tryz.f100.body.getD .skip) := SC.mk' (by simp only [Tryz.f100, go_sem]; rfl)
noncomputable def fun100 : Fun := ⟨[0, 1, 2, 4, 7, 8, 10, 5, 6, 9, 22, 41, 3], [1, 2, 6, 8, 9], [55, 8388618], 1, s100.1, [.cell 2 true 6, .tmp 3], 1235⟩
theorem ok100 : FnM Tryz.prog 100 fun100 := SC.okM s100 rfl (fn := Tryz.f100) (by kernel_rfl) (by kernel_rfl)
noncomputable def s107 : SC (Tryz.f107.body.getD .skip) := SC.mk' (by simp only [Tryz.f107, go_sem]; rfl)
noncomputable def fun107 : Fun := ⟨[0, 1, 2, 3, 7, 4, 6, 36], [3, 4, 6, 7], [], 3, s107.1, [.cell 6 true 63], 65⟩
theorem ok107 : FnM Tryz.prog 107 fun107 := SC.okM s107 rfl (fn := Tryz.f107) (by kernel_rfl) (by kernel_rfl)
noncomputable def s126 : SC (Tryz.f126.body.getD .skip) := SC.mk' (by simp only [Tryz.f126, go_sem]; rfl)
noncomputable def fun126 : Fun := ⟨[0, 1, 4], [], [], 2, s126.1, [.tmp 4], 0⟩
theorem ok126 : FnM Tryz.prog 126 fun126 := SC.okM s126 rfl (fn := Tryz.f126) (by kernel_rfl) (by kernel_rfl)
noncomputable def s127 : SC (Tryz.f127.body.getD .skip) := SC.mk' (by simp only [Tryz.f127, go_sem]; rfl)
noncomputable def fun127 : Fun := ⟨[0, 1, 8, 5, 7, 9, 16, 4], [], [], 2, s127.1, [.tmp 4], 0⟩
theorem ok127 : FnM Tryz.prog 127 fun127 := SC.okM s127 rfl (fn := Tryz.f127) (by kernel_rfl) (by kernel_rfl)
noncomputable def s144 : SC (Tryz.f144.body.getD .skip) := SC.mk' (by simp only [Tryz.f144, go_sem]; rfl)
noncomputable def fun144 : Fun := ⟨[0, 1, 2, 6, 8, 9, 16, 22, 7], [6, 8], [], 3, s144.1, [.cell 6 true 8, .tmp 7], 65⟩
theorem ok144 : FnM Tryz.prog 144 fun144 := SC.okM s144 rfl (fn := Tryz.f144) (by kernel_rfl) (by kernel_rfl)
noncomputable def s147 : SC (Tryz.f147.body.getD .skip) := SC.mk' (by simp only [Tryz.f147, go_sem]; rfl)
noncomputable def fun147 : Fun := ⟨[0, 1, 2, 19, 4, 6, 7, 3, 40, 112, 11, 20, 30, 52, 62, 72, 82, 92, 102, 123, 8, 9], [3, 4, 6, 7], [], 3, s147.1, [.cell 6 true 11, .cell 7 true 63, .tmp 8, .tmp 9], 975⟩
theorem ok147 : FnM Tryz.prog 147 fun147 := SC.okM s147 rfl (fn := Tryz.f147) (by kernel_rfl) (by kernel_rfl)
noncomputable def s156 : SC (Tryz.f156.body.getD .skip) := SC.mk' (by simp only [Tryz.f156, go_sem]; rfl)
noncomputable def fun156 : Fun := ⟨[0, 1, 3, 7, 11, 2], [1], [], 1, s156.1, [.tmp 2], 455⟩
theorem ok156 : FnM Tryz.prog 156 fun156 := SC.okM s156 rfl (fn := Tryz.f156) (by kernel_rfl) (by kernel_rfl)
noncomputable def s170 : SC (Tryz.f170.body.getD .skip) := SC.mk' (by simp only [Tryz.f170, go_sem]; rfl)
noncomputable def fun170 : Fun := ⟨[0, 1, 4, 3, 7, 5, 6, 8, 12, 17, 29, 31, 36, 45, 66, 74, 79, 106, 2], [1, 4], [], 1, s170.1, [.tmp 2], 130⟩
theorem ok170 : FnM Tryz.prog 170 fun170 := SC.okM s170 rfl (fn := Tryz.f170) (by kernel_rfl) (by kernel_rfl)
noncomputable def s182 : SC (Tryz.f182.body.getD .skip) := SC.mk' (by simp only [Tryz.f182, go_sem]; rfl)
noncomputable def fun182 : Fun := ⟨[0, 1, 2, 25, 33, 6], [], [], 3, s182.1, [.tmp 6], 0⟩
theorem ok182 : FnM Tryz.prog 182 fun182 := SC.okM s182 rfl (fn := Tryz.f182) (by kernel_rfl) (by kernel_rfl)
noncomputable def s187 : SC (Tryz.f187.body.getD .skip) := SC.mk' (by simp only [Tryz.f187, go_sem]; rfl)
noncomputable def fun187 : Fun := ⟨[0, 1, 2, 4, 5, 13, 3], [1, 2, 4], [], 1, s187.1, [.cell 2 true 26, .tmp 3], 65⟩
theorem ok187 : FnM Tryz.prog 187 fun187 := SC.okM s187 rfl (fn := Tryz.f187) (by kernel_rfl) (by kernel_rfl)
noncomputable def s197 : SC (Tryz.f197.body.getD .skip) := SC.mk' (by simp only [Tryz.f197, go_sem]; rfl)
noncomputable def fun197 : Fun := ⟨[0, 1, 4], [], [], 2, s197.1, [.tmp 4], 130⟩
theorem ok197 : FnM Tryz.prog 197 fun197 := SC.okM s197 rfl (fn := Tryz.f197) (by kernel_rfl) (by kernel_rfl)
noncomputable def s204 : SC (Tryz.f204.body.getD .skip) := SC.mk' (by simp only [Tryz.f204, go_sem]; rfl)
noncomputable def fun204 : Fun := ⟨[0, 1, 2], [], [], 1, s204.1, [.tmp 2], 520⟩
theorem ok204 : FnM Tryz.prog 204 fun204 := SC.okM s204 rfl (fn := Tryz.f204) (by kernel_rfl) (by kernel_rfl)
noncomputable def s213 : SC (Tryz.f213.body.getD .skip) := SC.mk' (by simp only [Tryz.f213, go_sem]; rfl)
noncomputable def fun213 : Fun := ⟨[0, 2], [], [], 1, s213.1, [.tmp 2], 0⟩
theorem ok213 : FnM Tryz.prog 213 fun213 := SC.okM s213 rfl (fn := Tryz.f213) (by kernel_rfl) (by kernel_rfl)
noncomputable def s241 : SC (Tryz.f241.body.getD .skip) := SC.mk' (by simp only [Tryz.f241, go_sem]; rfl)
noncomputable def fun241 : Fun := ⟨[0, 2], [], [], 1, s241.1, [.tmp 2], 0⟩
theorem ok241 : FnM Tryz.prog 241 fun241 := SC.okM s241 rfl (fn := Tryz.f241) (by kernel_rfl) (by kernel_rfl)
noncomputable def s246 : SC (Tryz.f246.body.getD .skip) := SC.mk' (by simp only [Tryz.f246, go_sem]; rfl)
noncomputable def fun246 : Fun := ⟨[0, 1, 2, 3, 4, 13, 21, 11, 19, 9, 10, 12, 14, 7, 20, 22, 29, 34, 50, 57, 5], [3, 4, 9], [52, 80], 2, s246.1, [.cell 4 true 8, .tmp 5], 1105⟩
theorem ok246 : FnM Tryz.prog 246 fun246 := SC.okM s246 rfl (fn := Tryz.f246) (by kernel_rfl) (by kernel_rfl)
noncomputable def s252 : SC (Tryz.f252.body.getD .skip) := SC.mk' (by simp only [Tryz.f252, go_sem]; rfl)
noncomputable def fun252 : Fun := ⟨[0, 1, 2], [1, 2], [], 1, s252.1, [.cell 2 true 8], 65⟩
theorem ok252 : FnM Tryz.prog 252 fun252 := SC.okM s252 rfl (fn := Tryz.f252) (by kernel_rfl) (by kernel_rfl)
noncomputable def s258 : SC (Tryz.f258.body.getD .skip) := SC.mk' (by simp only [Tryz.f258, go_sem]; rfl)
noncomputable def fun258 : Fun := ⟨[0, 2], [], [], 1, s258.1, [.tmp 2], 65⟩
theorem ok258 : FnM Tryz.prog 258 fun258 := SC.okM s258 rfl (fn := Tryz.f258) (by kernel_rfl) (by kernel_rfl)
noncomputable def s272 : SC (Tryz.f272.body.getD .skip) := SC.mk' (by simp only [Tryz.f272, go_sem]; rfl)
noncomputable def fun272 : Fun := ⟨[0, 1, 2, 3, 6, 21, 27, 7], [3, 6], [], 3, s272.1, [.cell 6 true 11, .tmp 7], 65⟩
theorem ok272 : FnM Tryz.prog 272 fun272 := SC.okM s272 rfl (fn := Tryz.f272) (by kernel_rfl) (by kernel_rfl)
noncomputable def s287 : SC (Tryz.f287.body.getD .skip) := SC.mk' (by simp only [Tryz.f287, go_sem]; rfl)
noncomputable def fun287 : Fun := ⟨[0, 1, 3], [], [], 2, s287.1, [.tmp 3], 0⟩
theorem ok287 : FnM Tryz.prog 287 fun287 := SC.okM s287 rfl (fn := Tryz.f287) (by kernel_rfl) (by kernel_rfl)
noncomputable def s289 : SC (Tryz.f289.body.getD .skip) := SC.mk' (by simp only [Tryz.f289, go_sem]; rfl)
noncomputable def fun289 : Fun := ⟨[0, 1, 2, 3, 7, 17, 6], [3], [], 3, s289.1, [.tmp 6], 130⟩
theorem ok289 : FnM Tryz.prog 289 fun289 := SC.okM s289 rfl (fn := Tryz.f289) (by kernel_rfl) (by kernel_rfl)
noncomputable def s295 : SC (Tryz.f295.body.getD .skip) := SC.mk' (by simp only [Tryz.f295, go_sem]; rfl)
noncomputable def fun295 : Fun := ⟨[0, 4, 2], [], [], 1, s295.1, [.tmp 2], 0⟩
theorem ok295 : FnM Tryz.prog 295 fun295 := SC.okM s295 rfl (fn := Tryz.f295) (by kernel_rfl) (by kernel_rfl)
noncomputable def s308 : SC (Tryz.f308.body.getD .skip) := SC.mk' (by simp only [Tryz.f308, go_sem]; rfl)
noncomputable def fun308 : Fun := ⟨[0, 1, 3, 8, 4, 61, 5, 6, 59, 9, 40, 45, 56, 60, 62, 68, 81, 2], [1, 8], [], 1, s308.1, [.tmp 2], 130⟩
theorem ok308 : FnM Tryz.prog 308 fun308 := SC.okM s308 rfl (fn := Tryz.f308) (by kernel_rfl) (by kernel_rfl)
noncomputable def s339 : SC (Tryz.f339.body.getD .skip) := SC.mk' (by simp only [Tryz.f339, go_sem]; rfl)
noncomputable def fun339 : Fun := ⟨[0, 1, 4], [], [], 2, s339.1, [.tmp 4], 65⟩
theorem ok339 : FnM Tryz.prog 339 fun339 := SC.okM s339 rfl (fn := Tryz.f339) (by kernel_rfl) (by kernel_rfl)
noncomputable def s344 : SC (Tryz.f344.body.getD .skip) := SC.mk' (by simp only [Tryz.f344, go_sem]; rfl)
noncomputable def fun344 : Fun := ⟨[0, 1, 4, 14, 12, 3, 5, 6, 10, 13, 15, 23, 25, 30, 35, 57, 61, 2], [1, 4], [], 1, s344.1, [.tmp 2], 325⟩
theorem ok344 : FnM Tryz.prog 344 fun344 := SC.okM s344 rfl (fn := Tryz.f344) (by kernel_rfl) (by kernel_rfl)
noncomputable def s359 : SC (Tryz.f359.body.getD .skip) := SC.mk' (by simp only [Tryz.f359, go_sem]; rfl)
noncomputable def fun359 : Fun := ⟨[0, 1, 2, 6, 3, 8, 9, 16, 25, 7], [3, 6], [], 3, s359.1, [.cell 6 true 11, .tmp 7], 130⟩
theorem ok359 : FnM Tryz.prog 359 fun359 := SC.okM s359 rfl (fn := Tryz.f359) (by kernel_rfl) (by kernel_rfl)
noncomputable def s401 : SC (Tryz.f401.body.getD .skip) := SC.mk' (by simp only [Tryz.f401, go_sem]; rfl)
noncomputable def fun401 : Fun := ⟨[0, 1, 2, 3], [2], [], 2, s401.1, [.tmp 3], 0⟩
theorem ok401 : FnM Tryz.prog 401 fun401 := SC.okM s401 rfl (fn := Tryz.f401) (by kernel_rfl) (by kernel_rfl)
noncomputable def s413 : SC (Tryz.f413.body.getD .skip) := SC.mk' (by simp only [Tryz.f413, go_sem]; rfl)
noncomputable def fun413 : Fun := ⟨[0, 1, 2, 3, 6, 11], [3, 6], [], 3, s413.1, [.cell 6 true 11], 65⟩
theorem ok413 : FnM Tryz.prog 413 fun413 := SC.okM s413 rfl (fn := Tryz.f413) (by kernel_rfl) (by kernel_rfl)
noncomputable def s445 : SC (Tryz.f445.body.getD .skip) := SC.mk' (by simp only [Tryz.f445, go_sem]; rfl)
noncomputable def fun445 : Fun := ⟨[0, 1, 8, 5, 7, 9, 16, 4], [], [], 2, s445.1, [.tmp 4], 130⟩
theorem ok445 : FnM Tryz.prog 445 fun445 := SC.okM s445 rfl (fn := Tryz.f445) (by kernel_rfl) (by kernel_rfl)
end Go.M
