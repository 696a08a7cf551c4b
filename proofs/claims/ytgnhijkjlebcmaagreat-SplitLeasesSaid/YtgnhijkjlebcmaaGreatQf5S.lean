/-
  The codes of functions, as the machine takes them.
  No condition: definitions and lemmas.
-/
import Derived.Test.YtgnhijkjlebcmaaGreatQtyS
set_option linter.all false
set_option maxRecDepth 100000
set_option maxHeartbeats 4000000
namespace Go.M
open Go Go.Proofs
open Go.Eng (SOp SOper SCode sizeP aggP zerosOf bytesP zeroVal stripCode stripOps stripOper strip stripParts kindsOf kinds2)
noncomputable def s13 : SC (Tryz.f13.body.getD .skip) := SC.mk' (by simp only [Tryz.f13, go_sem]; rfl)
noncomputable def fun13 : Fun := ⟨[0, 1, 3, 6, 9, 7, 8, 5, 10, 11, 4, 12, 31, 36, 59, 64, 69, 88, 93, 105, 108, 139, 142, 152, 161, 2], [1, 6], [], 1, s13.1, [.tmp 2], 65⟩
theorem ok13 : FnM Tryz.prog 13 fun13 := SC.okM s13 rfl (fn := Tryz.f13) (by kernel_rfl) (by kernel_rfl)
noncomputable def s28 : SC (Tryz.f28.body.getD .skip) := SC.mk' (by simp only [Tryz.f28, go_sem]; rfl)
noncomputable def fun28 : Fun := ⟨[0, 1, 2, 6], [6], [], 3, s28.1, [.cell 6 true 8], 0⟩
theorem ok28 : FnM Tryz.prog 28 fun28 := SC.okM s28 rfl (fn := Tryz.f28) (by kernel_rfl) (by kernel_rfl)
noncomputable def s35 : SC (Tryz.f35.body.getD .skip) := SC.mk' (by simp only [Tryz.f35, go_sem]; rfl)
noncomputable def fun35 : Fun := ⟨[0, 1, 2, 8, 6, 11, 4, 7, 10, 9, 30, 61, 5], [2, 4, 6, 7, 8], [66], 2, s35.1, [.cell 4 true 23, .tmp 5], 1040⟩
theorem ok35 : FnM Tryz.prog 35 fun35 := SC.okM s35 rfl (fn := Tryz.f35) (by kernel_rfl) (by kernel_rfl)
noncomputable def s47 : SC (Tryz.f47.body.getD .skip) := SC.mk' (by simp only [Tryz.f47, go_sem]; rfl)
noncomputable def fun47 : Fun := ⟨[0, 1, 4, 5, 6, 2, 7, 8, 21, 49, 58, 3], [1, 2, 4, 5, 6, 7], [], 1, s47.1, [.cell 2 true 63, .tmp 3], 780⟩
theorem ok47 : FnM Tryz.prog 47 fun47 := SC.okM s47 rfl (fn := Tryz.f47) (by kernel_rfl) (by kernel_rfl)
noncomputable def s48 : SC (Tryz.f48.body.getD .skip) := SC.mk' (by simp only [Tryz.f48, go_sem]; rfl)
noncomputable def fun48 : Fun := ⟨[0, 1, 2, 4], [2], [], 2, s48.1, [.tmp 4], 520⟩
theorem ok48 : FnM Tryz.prog 48 fun48 := SC.okM s48 rfl (fn := Tryz.f48) (by kernel_rfl) (by kernel_rfl)
noncomputable def s53 : SC (Tryz.f53.body.getD .skip) := SC.mk' (by simp only [Tryz.f53, go_sem]; rfl)
noncomputable def fun53 : Fun := ⟨[0, 1, 4, 42, 2, 3], [1], [], 1, s53.1, [.tmp 2, .tmp 3], 130⟩
theorem ok53 : FnM Tryz.prog 53 fun53 := SC.okM s53 rfl (fn := Tryz.f53) (by kernel_rfl) (by kernel_rfl)
noncomputable def s64 : SC (Tryz.f64.body.getD .skip) := SC.mk' (by simp only [Tryz.f64, go_sem]; rfl)
noncomputable def fun64 : Fun := ⟨[0, 1, 2, 6, 8, 9, 16, 22, 7], [6, 8], [], 3, s64.1, [.cell 6 true 8, .tmp 7], 65⟩
theorem ok64 : FnM Tryz.prog 64 fun64 := SC.okM s64 rfl (fn := Tryz.f64) (by kernel_rfl) (by kernel_rfl)
noncomputable def s75 : SC (Tryz.f75.body.getD .skip) := SC.mk' (by simp only [Tryz.f75, go_sem]; rfl)
noncomputable def fun75 : Fun := ⟨[0, 1, 2, 6], [], [], 3, s75.1, [.tmp 6], 0⟩
theorem ok75 : FnM Tryz.prog 75 fun75 := SC.okM s75 rfl (fn := Tryz.f75) (by kernel_rfl) (by kernel_rfl)
noncomputable def s79 : SC (Tryz.f79.body.getD .skip) := SC.mk' (by simp only [Tryz.f79, go_sem]; rfl)
noncomputable def fun79 : Fun := ⟨[0, 1, 2], [1, 2], [], 1, s79.1, [.cell 2 true 6], 0⟩
theorem ok79 : FnM Tryz.prog 79 fun79 := SC.okM s79 rfl (fn := Tryz.f79) (by kernel_rfl) (by kernel_rfl)
noncomputable def s83 : SC (Tryz.f83.body.getD .skip) := SC.mk' (by simp only [Tryz.f83, go_sem]; rfl)
noncomputable def fun83 : Fun := ⟨[0, 1, 2, 3, 4, 5, 8, 10, 17, 9], [4, 5, 8], [], 4, s83.1, [.cell 8 true 8, .tmp 9], 650⟩
theorem ok83 : FnM Tryz.prog 83 fun83 := SC.okM s83 rfl (fn := Tryz.f83) (by kernel_rfl) (by kernel_rfl)
noncomputable def s110 : SC (Tryz.f110.body.getD .skip) := SC.mk' (by simp only [Tryz.f110, go_sem]; rfl)
noncomputable def fun110 : Fun := ⟨[0, 1, 2, 4, 6, 7, 13, 3, 105, 10, 30, 11, 16, 17, 22, 31, 64, 14, 15, 84, 91, 18, 101, 106, 113, 120, 8, 9], [3, 4, 6, 7, 11, 13, 17], [], 3, s110.1, [.cell 6 true 11, .cell 7 true 63, .tmp 8, .tmp 9], 910⟩
theorem ok110 : FnM Tryz.prog 110 fun110 := SC.okM s110 rfl (fn := Tryz.f110) (by kernel_rfl) (by kernel_rfl)
noncomputable def s159 : SC (Tryz.f159.body.getD .skip) := SC.mk' (by simp only [Tryz.f159, go_sem]; rfl)
noncomputable def fun159 : Fun := ⟨[0, 1, 2, 3, 4, 8, 18, 35, 11, 45, 48, 9, 10], [4, 8], [], 4, s159.1, [.cell 8 true 11, .tmp 9, .tmp 10], 65⟩
theorem ok159 : FnM Tryz.prog 159 fun159 := SC.okM s159 rfl (fn := Tryz.f159) (by kernel_rfl) (by kernel_rfl)
noncomputable def s167 : SC (Tryz.f167.body.getD .skip) := SC.mk' (by simp only [Tryz.f167, go_sem]; rfl)
noncomputable def fun167 : Fun := ⟨[0, 1, 2, 4, 9, 5], [2, 4], [], 2, s167.1, [.cell 4 true 4, .tmp 5], 65⟩
theorem ok167 : FnM Tryz.prog 167 fun167 := SC.okM s167 rfl (fn := Tryz.f167) (by kernel_rfl) (by kernel_rfl)
noncomputable def s198 : SC (Tryz.f198.body.getD .skip) := SC.mk' (by simp only [Tryz.f198, go_sem]; rfl)
noncomputable def fun198 : Fun := ⟨[0, 1, 3, 2, 7, 9, 4, 5, 8, 21, 48, 6], [2, 3, 4, 5, 9], [], 2, s198.1, [.cell 4 true 11, .cell 5 true 26, .tmp 6], 130⟩
theorem ok198 : FnM Tryz.prog 198 fun198 := SC.okM s198 rfl (fn := Tryz.f198) (by kernel_rfl) (by kernel_rfl)
noncomputable def s200 : SC (Tryz.f200.body.getD .skip) := SC.mk' (by simp only [Tryz.f200, go_sem]; rfl)
noncomputable def fun200 : Fun := ⟨[0, 1, 2, 4, 3, 6, 7, 9, 10, 11, 29, 53, 67, 79, 8], [3, 4, 6, 7], [], 3, s200.1, [.cell 6 true 11, .cell 7 true 26, .tmp 8], 520⟩
theorem ok200 : FnM Tryz.prog 200 fun200 := SC.okM s200 rfl (fn := Tryz.f200) (by kernel_rfl) (by kernel_rfl)
noncomputable def s224 : SC (Tryz.f224.body.getD .skip) := SC.mk' (by simp only [Tryz.f224, go_sem]; rfl)
noncomputable def fun224 : Fun := ⟨[0, 1, 2, 3], [2], [], 2, s224.1, [.tmp 3], 0⟩
theorem ok224 : FnM Tryz.prog 224 fun224 := SC.okM s224 rfl (fn := Tryz.f224) (by kernel_rfl) (by kernel_rfl)
noncomputable def s235 : SC (Tryz.f235.body.getD .skip) := SC.mk' (by simp only [Tryz.f235, go_sem]; rfl)
noncomputable def fun235 : Fun := ⟨[0, 1, 5, 2], [1], [], 1, s235.1, [.tmp 2], 520⟩
theorem ok235 : FnM Tryz.prog 235 fun235 := SC.okM s235 rfl (fn := Tryz.f235) (by kernel_rfl) (by kernel_rfl)
noncomputable def s239 : SC (Tryz.f239.body.getD .skip) := SC.mk' (by simp only [Tryz.f239, go_sem]; rfl)
noncomputable def fun239 : Fun := ⟨[0, 1, 2, 25, 33, 6], [], [], 3, s239.1, [.tmp 6], 0⟩
theorem ok239 : FnM Tryz.prog 239 fun239 := SC.okM s239 rfl (fn := Tryz.f239) (by kernel_rfl) (by kernel_rfl)
noncomputable def s240 : SC (Tryz.f240.body.getD .skip) := SC.mk' (by simp only [Tryz.f240, go_sem]; rfl)
noncomputable def fun240 : Fun := ⟨[0, 1, 2, 4, 3, 6, 7, 11, 17, 20, 34, 43, 5], [2, 3, 4], [], 2, s240.1, [.cell 4 true 8, .tmp 5], 585⟩
theorem ok240 : FnM Tryz.prog 240 fun240 := SC.okM s240 rfl (fn := Tryz.f240) (by kernel_rfl) (by kernel_rfl)
noncomputable def s296 : SC (Tryz.f296.body.getD .skip) := SC.mk' (by simp only [Tryz.f296, go_sem]; rfl)
noncomputable def fun296 : Fun := ⟨[0, 1, 2, 3, 6, 22, 27, 7, 8], [3, 6], [], 3, s296.1, [.cell 6 true 11, .tmp 7, .tmp 8], 65⟩
theorem ok296 : FnM Tryz.prog 296 fun296 := SC.okM s296 rfl (fn := Tryz.f296) (by kernel_rfl) (by kernel_rfl)
noncomputable def s306 : SC (Tryz.f306.body.getD .skip) := SC.mk' (by simp only [Tryz.f306, go_sem]; rfl)
noncomputable def fun306 : Fun := ⟨[0, 1, 5, 2, 11, 21, 4], [2], [], 2, s306.1, [.tmp 4], 0⟩
theorem ok306 : FnM Tryz.prog 306 fun306 := SC.okM s306 rfl (fn := Tryz.f306) (by kernel_rfl) (by kernel_rfl)
noncomputable def s316 : SC (Tryz.f316.body.getD .skip) := SC.mk' (by simp only [Tryz.f316, go_sem]; rfl)
noncomputable def fun316 : Fun := ⟨[0, 1, 6, 5, 16, 39, 4], [], [], 2, s316.1, [.tmp 4], 130⟩
theorem ok316 : FnM Tryz.prog 316 fun316 := SC.okM s316 rfl (fn := Tryz.f316) (by kernel_rfl) (by kernel_rfl)
noncomputable def s317 : SC (Tryz.f317.body.getD .skip) := SC.mk' (by simp only [Tryz.f317, go_sem]; rfl)
noncomputable def fun317 : Fun := ⟨[0, 1, 2], [1], [], 1, s317.1, [.tmp 2], 0⟩
theorem ok317 : FnM Tryz.prog 317 fun317 := SC.okM s317 rfl (fn := Tryz.f317) (by kernel_rfl) (by kernel_rfl)
noncomputable def s333 : SC (Tryz.f333.body.getD .skip) := SC.mk' (by simp only [Tryz.f333, go_sem]; rfl)
noncomputable def fun333 : Fun := ⟨[0, 2], [], [], 1, s333.1, [.tmp 2], 65⟩
theorem ok333 : FnM Tryz.prog 333 fun333 := SC.okM s333 rfl (fn := Tryz.f333) (by kernel_rfl) (by kernel_rfl)
noncomputable def s356 : SC (Tryz.f356.body.getD .skip) := SC.mk' (by simp only [Tryz.f356, go_sem]; rfl)
noncomputable def fun356 : Fun := ⟨[0, 1, 2, 3, 7, 17, 6], [3], [], 3, s356.1, [.tmp 6], 130⟩
theorem ok356 : FnM Tryz.prog 356 fun356 := SC.okM s356 rfl (fn := Tryz.f356) (by kernel_rfl) (by kernel_rfl)
noncomputable def s358 : SC (Tryz.f358.body.getD .skip) := SC.mk' (by simp only [Tryz.f358, go_sem]; rfl)
noncomputable def fun358 : Fun := ⟨[0, 1, 2, 4], [2], [], 2, s358.1, [.tmp 4], 0⟩
theorem ok358 : FnM Tryz.prog 358 fun358 := SC.okM s358 rfl (fn := Tryz.f358) (by kernel_rfl) (by kernel_rfl)
noncomputable def s375 : SC (Tryz.f375.body.getD .skip) := SC.mk' (by simp only [Tryz.f375, go_sem]; rfl)
noncomputable def fun375 : Fun := ⟨[0, 2], [], [], 1, s375.1, [.tmp 2], 0⟩
theorem ok375 : FnM Tryz.prog 375 fun375 := SC.okM s375 rfl (fn := Tryz.f375) (by kernel_rfl) (by kernel_rfl)
noncomputable def s382 : SC (Tryz.f382.body.getD .skip) := SC.mk' (by simp only [Tryz.f382, go_sem]; rfl)
noncomputable def fun382 : Fun := ⟨[0, 1, 2, 3, 4], [2, 3], [], 2, s382.1, [.tmp 4], 0⟩
theorem ok382 : FnM Tryz.prog 382 fun382 := SC.okM s382 rfl (fn := Tryz.f382) (by kernel_rfl) (by kernel_rfl)
noncomputable def s384 : SC (Tryz.f384.body.getD .skip) := SC.mk' (by simp only [Tryz.f384, go_sem]; rfl)
noncomputable def fun384 : Fun := ⟨[0, 1, 5, 11, 31, 43, 4], [], [], 2, s384.1, [.tmp 4], 65⟩
theorem ok384 : FnM Tryz.prog 384 fun384 := SC.okM s384 rfl (fn := Tryz.f384) (by kernel_rfl) (by kernel_rfl)
noncomputable def s387 : SC (Tryz.f387.body.getD .skip) := SC.mk' (by simp only [Tryz.f387, go_sem]; rfl)
noncomputable def fun387 : Fun := ⟨[0, 4, 2], [], [], 1, s387.1, [.tmp 2], 0⟩
theorem ok387 : FnM Tryz.prog 387 fun387 := SC.okM s387 rfl (fn := Tryz.f387) (by kernel_rfl) (by kernel_rfl)
noncomputable def s392 : SC (Tryz.f392.body.getD .skip) := SC.mk' (by simp only [Tryz.f392, go_sem]; rfl)
noncomputable def fun392 : Fun := ⟨[0, 1, 2, 4], [2], [], 2, s392.1, [.tmp 4], 0⟩
theorem ok392 : FnM Tryz.prog 392 fun392 := SC.okM s392 rfl (fn := Tryz.f392) (by kernel_rfl) (by kernel_rfl)
noncomputable def s397 : SC (Tryz.f397.body.getD .skip) := SC.mk' (by simp only [Tryz.f397, go_sem]; rfl)
noncomputable def fun397 : Fun := ⟨[0, 2], [], [], 1, s397.1, [.tmp 2], 0⟩
theorem ok397 : FnM Tryz.prog 397 fun397 := SC.okM s397 rfl (fn := Tryz.f397) (by kernel_rfl) (by kernel_rfl)
noncomputable def s407 : SC (Tryz.f407.body.getD .skip) := SC.mk' (by simp only [Tryz.f407, go_sem]; rfl)
noncomputable def fun407 : Fun := ⟨[0, 1, 5, 21, 4], [], [], 2, s407.1, [.tmp 4], 195⟩
theorem ok407 : FnM Tryz.prog 407 fun407 := SC.okM s407 rfl (fn := Tryz.f407) (by kernel_rfl) (by kernel_rfl)
noncomputable def s422 : SC (Tryz.f422.body.getD .skip) := SC.mk' (by simp only [Tryz.f422, go_sem]; rfl)
noncomputable def fun422 : Fun := ⟨[0, 1, 2, 9, 11, 8, 10, 17, 31, 6, 7], [], [], 3, s422.1, [.tmp 6, .tmp 7], 195⟩
theorem ok422 : FnM Tryz.prog 422 fun422 := SC.okM s422 rfl (fn := Tryz.f422) (by kernel_rfl) (by kernel_rfl)
noncomputable def s446 : SC (Tryz.f446.body.getD .skip) := SC.mk' (by simp only [Tryz.f446, go_sem]; rfl)
noncomputable def fun446 : Fun := ⟨[0, 1, 8, 5, 7, 9, 16, 4], [], [], 2, s446.1, [.tmp 4], 130⟩
theorem ok446 : FnM Tryz.prog 446 fun446 := SC.okM s446 rfl (fn := Tryz.f446) (by kernel_rfl) (by kernel_rfl)
end Go.M
