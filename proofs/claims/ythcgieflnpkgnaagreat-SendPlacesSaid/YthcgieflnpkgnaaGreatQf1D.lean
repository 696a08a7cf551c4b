/-
  The codes of functions, as the machine takes them.
  No condition: definitions and lemmas.
-/
import Derived.Test.YthcgieflnpkgnaaGreatQtyD
set_option linter.all false
set_option maxRecDepth 100000
set_option maxHeartbeats 4000000
namespace Go.M
open Go Go.Proofs
open Go.Eng (SOp SOper SCode sizeP aggP zerosOf bytesP zeroVal stripCode stripOps stripOper strip stripParts kindsOf)

noncomputable def s10 : SC (Tryz.f10.body.getD .skip) := SC.mk' (by simp only [Tryz.f10, go_sem]; rfl)
noncomputable def fun10 : Fun := ⟨[0, 1, 2, 4], [2], [], 2, s10.1, [.tmp 4], 8⟩
theorem ok10 : FnM Tryz.prog 10 fun10 := SC.okM s10 rfl (fn := Tryz.f10) (by kernel_rfl) (by kernel_rfl)
noncomputable def s13 : SC (Tryz.f13.body.getD .skip) := SC.mk' (by simp only [Tryz.f13, go_sem]; rfl)
noncomputable def fun13 : Fun := ⟨[0, 1, 2, 6], [6], [], 3, s13.1, [.cell 6 true 8], 0⟩
theorem ok13 : FnM Tryz.prog 13 fun13 := SC.okM s13 rfl (fn := Tryz.f13) (by kernel_rfl) (by kernel_rfl)
noncomputable def s18 : SC (Tryz.f18.body.getD .skip) := SC.mk' (by simp only [Tryz.f18, go_sem]; rfl)
noncomputable def fun18 : Fun := ⟨[0, 1, 5, 7, 2, 4, 15], [2, 4, 5], [], 2, s18.1, [.cell 4 true 11], 18⟩
theorem ok18 : FnM Tryz.prog 18 fun18 := SC.okM s18 rfl (fn := Tryz.f18) (by kernel_rfl) (by kernel_rfl)
noncomputable def s27 : SC (Tryz.f27.body.getD .skip) := SC.mk' (by simp only [Tryz.f27, go_sem]; rfl)
noncomputable def fun27 : Fun := ⟨[0, 1, 6, 7, 4, 8, 19, 24, 46, 5], [4, 6], [], 2, s27.1, [.cell 4 true 3, .tmp 5], 0⟩
theorem ok27 : FnM Tryz.prog 27 fun27 := SC.okM s27 rfl (fn := Tryz.f27) (by kernel_rfl) (by kernel_rfl)
noncomputable def s28 : SC (Tryz.f28.body.getD .skip) := SC.mk' (by simp only [Tryz.f28, go_sem]; rfl)
noncomputable def fun28 : Fun := ⟨[0, 2, 4, 5, 12, 3], [2, 4], [], 1, s28.1, [.cell 2 true 8, .tmp 3], 1⟩
theorem ok28 : FnM Tryz.prog 28 fun28 := SC.okM s28 rfl (fn := Tryz.f28) (by kernel_rfl) (by kernel_rfl)
noncomputable def s31 : SC (Tryz.f31.body.getD .skip) := SC.mk' (by simp only [Tryz.f31, go_sem]; rfl)
noncomputable def fun31 : Fun := ⟨[0, 1, 2, 3, 8, 6, 5, 11, 12, 22, 30, 37, 9], [5, 6, 8, 10], [], 4, s31.1, [.cell 8 true 63, .tmp 9], 3⟩
theorem ok31 : FnM Tryz.prog 31 fun31 := SC.okM s31 rfl (fn := Tryz.f31) (by kernel_rfl) (by kernel_rfl)
noncomputable def s32 : SC (Tryz.f32.body.getD .skip) := SC.mk' (by simp only [Tryz.f32, go_sem]; rfl)
noncomputable def fun32 : Fun := ⟨[0, 1, 2, 4, 3, 26, 6, 7, 10, 11, 13, 17, 12, 27, 37, 46, 54, 66, 8, 9], [3, 4, 6, 7], [], 3, s32.1, [.cell 6 true 11, .cell 7 true 63, .tmp 8, .tmp 9], 16⟩
theorem ok32 : FnM Tryz.prog 32 fun32 := SC.okM s32 rfl (fn := Tryz.f32) (by kernel_rfl) (by kernel_rfl)
noncomputable def s35 : SC (Tryz.f35.body.getD .skip) := SC.mk' (by simp only [Tryz.f35, go_sem]; rfl)
noncomputable def fun35 : Fun := ⟨[0, 1, 2, 9, 8, 27, 33, 6, 7], [], [], 3, s35.1, [.tmp 6, .tmp 7], 0⟩
theorem ok35 : FnM Tryz.prog 35 fun35 := SC.okM s35 rfl (fn := Tryz.f35) (by kernel_rfl) (by kernel_rfl)
noncomputable def s55 : SC (Tryz.f55.body.getD .skip) := SC.mk' (by simp only [Tryz.f55, go_sem]; rfl)
noncomputable def fun55 : Fun := ⟨[0, 1, 4], [], [], 2, s55.1, [.tmp 4], 0⟩
theorem ok55 : FnM Tryz.prog 55 fun55 := SC.okM s55 rfl (fn := Tryz.f55) (by kernel_rfl) (by kernel_rfl)
noncomputable def s62 : SC (Tryz.f62.body.getD .skip) := SC.mk' (by simp only [Tryz.f62, go_sem]; rfl)
noncomputable def fun62 : Fun := ⟨[0, 1, 2, 4, 3, 11, 6, 7, 32, 33, 45, 12, 10, 26, 40, 46, 56, 68, 71, 84, 8, 9], [3, 4, 6, 7, 12], [], 3, s62.1, [.cell 6 true 11, .cell 7 true 63, .tmp 8, .tmp 9], 15⟩
theorem ok62 : FnM Tryz.prog 62 fun62 := SC.okM s62 rfl (fn := Tryz.f62) (by kernel_rfl) (by kernel_rfl)
noncomputable def s72 : SC (Tryz.f72.body.getD .skip) := SC.mk' (by simp only [Tryz.f72, go_sem]; rfl)
noncomputable def fun72 : Fun := ⟨[0, 1, 2], [1, 2], [], 1, s72.1, [.cell 2 true 3], 0⟩
theorem ok72 : FnM Tryz.prog 72 fun72 := SC.okM s72 rfl (fn := Tryz.f72) (by kernel_rfl) (by kernel_rfl)
noncomputable def s73 : SC (Tryz.f73.body.getD .skip) := SC.mk' (by simp only [Tryz.f73, go_sem]; rfl)
noncomputable def fun73 : Fun := ⟨[0, 1, 6, 13, 2, 11, 9, 12, 14, 26, 4], [2, 6], [], 2, s73.1, [.tmp 4], 5⟩
theorem ok73 : FnM Tryz.prog 73 fun73 := SC.okM s73 rfl (fn := Tryz.f73) (by kernel_rfl) (by kernel_rfl)
noncomputable def s85 : SC (Tryz.f85.body.getD .skip) := SC.mk' (by simp only [Tryz.f85, go_sem]; rfl)
noncomputable def fun85 : Fun := ⟨[0, 1, 2, 6], [], [], 3, s85.1, [.tmp 6], 0⟩
theorem ok85 : FnM Tryz.prog 85 fun85 := SC.okM s85 rfl (fn := Tryz.f85) (by kernel_rfl) (by kernel_rfl)
noncomputable def s99 : SC (Tryz.f99.body.getD .skip) := SC.mk' (by simp only [Tryz.f99, go_sem]; rfl)
noncomputable def fun99 : Fun := ⟨[0, 1, 2, 3, 7, 4, 6, 36], [3, 4, 6, 7], [], 3, s99.1, [.cell 6 true 63], 1⟩
theorem ok99 : FnM Tryz.prog 99 fun99 := SC.okM s99 rfl (fn := Tryz.f99) (by kernel_rfl) (by kernel_rfl)
noncomputable def s111 : SC (Tryz.f111.body.getD .skip) := SC.mk' (by simp only [Tryz.f111, go_sem]; rfl)
noncomputable def fun111 : Fun := ⟨[0, 1, 2], [1], [], 1, s111.1, [.tmp 2], 5⟩
theorem ok111 : FnM Tryz.prog 111 fun111 := SC.okM s111 rfl (fn := Tryz.f111) (by kernel_rfl) (by kernel_rfl)
noncomputable def s126 : SC (Tryz.f126.body.getD .skip) := SC.mk' (by simp only [Tryz.f126, go_sem]; rfl)
noncomputable def fun126 : Fun := ⟨[0, 1, 3, 4], [], [], 2, s126.1, [.tmp 4], 2⟩
theorem ok126 : FnM Tryz.prog 126 fun126 := SC.okM s126 rfl (fn := Tryz.f126) (by kernel_rfl) (by kernel_rfl)
noncomputable def s141 : SC (Tryz.f141.body.getD .skip) := SC.mk' (by simp only [Tryz.f141, go_sem]; rfl)
noncomputable def fun141 : Fun := ⟨[0, 1, 5, 2], [1], [], 1, s141.1, [.tmp 2], 7⟩
theorem ok141 : FnM Tryz.prog 141 fun141 := SC.okM s141 rfl (fn := Tryz.f141) (by kernel_rfl) (by kernel_rfl)
noncomputable def s172 : SC (Tryz.f172.body.getD .skip) := SC.mk' (by simp only [Tryz.f172, go_sem]; rfl)
noncomputable def fun172 : Fun := ⟨[0, 1, 2, 6], [], [], 3, s172.1, [.tmp 6], 0⟩
theorem ok172 : FnM Tryz.prog 172 fun172 := SC.okM s172 rfl (fn := Tryz.f172) (by kernel_rfl) (by kernel_rfl)
noncomputable def s194 : SC (Tryz.f194.body.getD .skip) := SC.mk' (by simp only [Tryz.f194, go_sem]; rfl)
noncomputable def fun194 : Fun := ⟨[0, 3, 30, 32, 47, 57, 2], [], [], 1, s194.1, [.tmp 2], 9⟩
theorem ok194 : FnM Tryz.prog 194 fun194 := SC.okM s194 rfl (fn := Tryz.f194) (by kernel_rfl) (by kernel_rfl)
noncomputable def s198 : SC (Tryz.f198.body.getD .skip) := SC.mk' (by simp only [Tryz.f198, go_sem]; rfl)
noncomputable def fun198 : Fun := ⟨[0, 3, 4, 5, 6, 28, 50, 60, 86, 114, 133, 139, 153, 2], [3], [], 1, s198.1, [.tmp 2], 8⟩
theorem ok198 : FnM Tryz.prog 198 fun198 := SC.okM s198 rfl (fn := Tryz.f198) (by kernel_rfl) (by kernel_rfl)
noncomputable def s201 : SC (Tryz.f201.body.getD .skip) := SC.mk' (by simp only [Tryz.f201, go_sem]; rfl)
noncomputable def fun201 : Fun := ⟨[0, 1, 8, 56, 3, 4, 5, 6, 54, 13, 19, 23, 36, 37, 44, 55, 57, 67, 79, 2], [1, 8], [], 1, s201.1, [.tmp 2], 6⟩
theorem ok201 : FnM Tryz.prog 201 fun201 := SC.okM s201 rfl (fn := Tryz.f201) (by kernel_rfl) (by kernel_rfl)
noncomputable def s248 : SC (Tryz.f248.body.getD .skip) := SC.mk' (by simp only [Tryz.f248, go_sem]; rfl)
noncomputable def fun248 : Fun := ⟨[0, 1, 2, 4], [2], [], 2, s248.1, [.tmp 4], 0⟩
theorem ok248 : FnM Tryz.prog 248 fun248 := SC.okM s248 rfl (fn := Tryz.f248) (by kernel_rfl) (by kernel_rfl)
noncomputable def s252 : SC (Tryz.f252.body.getD .skip) := SC.mk' (by simp only [Tryz.f252, go_sem]; rfl)
noncomputable def fun252 : Fun := ⟨[0, 1, 2], [1, 2], [], 1, s252.1, [.cell 2 true 8], 1⟩
theorem ok252 : FnM Tryz.prog 252 fun252 := SC.okM s252 rfl (fn := Tryz.f252) (by kernel_rfl) (by kernel_rfl)
noncomputable def s282 : SC (Tryz.f282.body.getD .skip) := SC.mk' (by simp only [Tryz.f282, go_sem]; rfl)
noncomputable def fun282 : Fun := ⟨[0, 1, 2, 4, 6, 7, 10, 3, 20, 11, 30, 38, 8], [3, 4, 6, 7], [], 3, s282.1, [.cell 6 true 11, .cell 7 true 5, .tmp 8], 4⟩
theorem ok282 : FnM Tryz.prog 282 fun282 := SC.okM s282 rfl (fn := Tryz.f282) (by kernel_rfl) (by kernel_rfl)
noncomputable def s284 : SC (Tryz.f284.body.getD .skip) := SC.mk' (by simp only [Tryz.f284, go_sem]; rfl)
noncomputable def fun284 : Fun := ⟨[0, 1], [], [], 2, s284.1, [], 0⟩
theorem ok284 : FnM Tryz.prog 284 fun284 := SC.okM s284 rfl (fn := Tryz.f284) (by kernel_rfl) (by kernel_rfl)
noncomputable def s286 : SC (Tryz.f286.body.getD .skip) := SC.mk' (by simp only [Tryz.f286, go_sem]; rfl)
noncomputable def fun286 : Fun := ⟨[0, 2], [], [], 1, s286.1, [.tmp 2], 0⟩
theorem ok286 : FnM Tryz.prog 286 fun286 := SC.okM s286 rfl (fn := Tryz.f286) (by kernel_rfl) (by kernel_rfl)
noncomputable def s287 : SC (Tryz.f287.body.getD .skip) := SC.mk' (by simp only [Tryz.f287, go_sem]; rfl)
noncomputable def fun287 : Fun := ⟨[0, 1, 2, 4, 10, 16, 3], [1, 2], [], 1, s287.1, [.cell 2 true 4, .tmp 3], 1⟩
theorem ok287 : FnM Tryz.prog 287 fun287 := SC.okM s287 rfl (fn := Tryz.f287) (by kernel_rfl) (by kernel_rfl)
noncomputable def s295 : SC (Tryz.f295.body.getD .skip) := SC.mk' (by simp only [Tryz.f295, go_sem]; rfl)
noncomputable def fun295 : Fun := ⟨[0, 1, 2, 3, 4, 8, 7, 10, 11, 17, 23, 39, 9], [4, 7, 8], [], 4, s295.1, [.cell 8 true 11, .tmp 9], 7⟩
theorem ok295 : FnM Tryz.prog 295 fun295 := SC.okM s295 rfl (fn := Tryz.f295) (by kernel_rfl) (by kernel_rfl)
noncomputable def s354 : SC (Tryz.f354.body.getD .skip) := SC.mk' (by simp only [Tryz.f354, go_sem]; rfl)
noncomputable def fun354 : Fun := ⟨[0, 1, 2], [1, 2], [], 1, s354.1, [.cell 2 true 3], 1⟩
theorem ok354 : FnM Tryz.prog 354 fun354 := SC.okM s354 rfl (fn := Tryz.f354) (by kernel_rfl) (by kernel_rfl)
noncomputable def s358 : SC (Tryz.f358.body.getD .skip) := SC.mk' (by simp only [Tryz.f358, go_sem]; rfl)
noncomputable def fun358 : Fun := ⟨[0, 4, 2], [], [], 1, s358.1, [.tmp 2], 0⟩
theorem ok358 : FnM Tryz.prog 358 fun358 := SC.okM s358 rfl (fn := Tryz.f358) (by kernel_rfl) (by kernel_rfl)
noncomputable def s389 : SC (Tryz.f389.body.getD .skip) := SC.mk' (by simp only [Tryz.f389, go_sem]; rfl)
noncomputable def fun389 : Fun := ⟨[0, 1, 2, 4, 3, 6, 7, 10, 21, 9, 38, 42, 53, 55, 8], [3, 4, 6, 7], [], 3, s389.1, [.cell 6 true 11, .cell 7 true 5, .tmp 8], 3⟩
theorem ok389 : FnM Tryz.prog 389 fun389 := SC.okM s389 rfl (fn := Tryz.f389) (by kernel_rfl) (by kernel_rfl)
noncomputable def s395 : SC (Tryz.f395.body.getD .skip) := SC.mk' (by simp only [Tryz.f395, go_sem]; rfl)
noncomputable def fun395 : Fun := ⟨[0, 1, 2, 4], [2], [], 2, s395.1, [.tmp 4], 0⟩
theorem ok395 : FnM Tryz.prog 395 fun395 := SC.okM s395 rfl (fn := Tryz.f395) (by kernel_rfl) (by kernel_rfl)
noncomputable def s404 : SC (Tryz.f404.body.getD .skip) := SC.mk' (by simp only [Tryz.f404, go_sem]; rfl)
noncomputable def fun404 : Fun := ⟨[0, 1, 7, 3, 6, 8, 4, 2], [1], [], 1, s404.1, [.tmp 2], 1⟩
theorem ok404 : FnM Tryz.prog 404 fun404 := SC.okM s404 rfl (fn := Tryz.f404) (by kernel_rfl) (by kernel_rfl)
noncomputable def s461 : SC (Tryz.f461.body.getD .skip) := SC.mk' (by simp only [Tryz.f461, go_sem]; rfl)
noncomputable def fun461 : Fun := ⟨[0, 1, 2, 6, 3, 8, 9, 16, 25, 7], [3, 6], [], 3, s461.1, [.cell 6 true 11, .tmp 7], 2⟩
theorem ok461 : FnM Tryz.prog 461 fun461 := SC.okM s461 rfl (fn := Tryz.f461) (by kernel_rfl) (by kernel_rfl)
noncomputable def s462 : SC (Tryz.f462.body.getD .skip) := SC.mk' (by simp only [Tryz.f462, go_sem]; rfl)
noncomputable def fun462 : Fun := ⟨[0, 1, 8, 5, 7, 9, 16, 4], [], [], 2, s462.1, [.tmp 4], 6⟩
theorem ok462 : FnM Tryz.prog 462 fun462 := SC.okM s462 rfl (fn := Tryz.f462) (by kernel_rfl) (by kernel_rfl)
noncomputable def s465 : SC (Tryz.f465.body.getD .skip) := SC.mk' (by simp only [Tryz.f465, go_sem]; rfl)
noncomputable def fun465 : Fun := ⟨[0, 1, 4], [], [], 2, s465.1, [.tmp 4], 3⟩
theorem ok465 : FnM Tryz.prog 465 fun465 := SC.okM s465 rfl (fn := Tryz.f465) (by kernel_rfl) (by kernel_rfl)
noncomputable def s493 : SC (Tryz.f493.body.getD .skip) := SC.mk' (by simp only [Tryz.f493, go_sem]; rfl)
noncomputable def fun493 : Fun := ⟨[0, 1, 8, 5, 7, 9, 16, 4], [], [], 2, s493.1, [.tmp 4], 2⟩
theorem ok493 : FnM Tryz.prog 493 fun493 := SC.okM s493 rfl (fn := Tryz.f493) (by kernel_rfl) (by kernel_rfl)
noncomputable def s512 : SC (Tryz.f512.body.getD .skip) := SC.mk' (by simp only [Tryz.f512, go_sem]; rfl)
noncomputable def fun512 : Fun := ⟨[0, 1, 2, 3, 6, 11], [3, 6], [], 3, s512.1, [.cell 6 true 11], 1⟩
theorem ok512 : FnM Tryz.prog 512 fun512 := SC.okM s512 rfl (fn := Tryz.f512) (by kernel_rfl) (by kernel_rfl)
end Go.M
