/-
  The codes of functions, as the machine takes them.
  No condition: definitions and lemmas.
-/
import Derived.Test.YthhjbngoibmpgaaGreatQtym
set_option linter.all false
set_option maxRecDepth 100000
set_option maxHeartbeats 4000000
namespace Go.M
open Go Go.Proofs
open Go.Eng (SOp SOper SCode sizeP aggP zerosOf bytesP zeroVal stripCode stripOps stripOper strip stripParts kindsOf)

noncomputable def s13 : SC (Tryz.f13.body.getD .skip) := SC.mk' (by simp only [Tryz.f13, go_sem]; rfl)
noncomputable def fun13 : Fun := ⟨[0, 1, 2, 9, 4], [2], [], 2, s13.1, [.tmp 4], 0⟩
theorem ok13 : FnM Tryz.prog 13 fun13 := SC.okM s13 rfl (fn := Tryz.f13) (by kernel_rfl) (by kernel_rfl)
noncomputable def s18 : SC (Tryz.f18.body.getD .skip) := SC.mk' (by simp only [Tryz.f18, go_sem]; rfl)
noncomputable def fun18 : Fun := ⟨[0, 1, 4, 6, 7, 14, 22, 5], [4, 6], [], 2, s18.1, [.cell 4 true 26, .tmp 5], 65⟩
theorem ok18 : FnM Tryz.prog 18 fun18 := SC.okM s18 rfl (fn := Tryz.f18) (by kernel_rfl) (by kernel_rfl)
noncomputable def s25 : SC (Tryz.f25.body.getD .skip) := SC.mk' (by simp only [Tryz.f25, go_sem]; rfl)
noncomputable def fun25 : Fun := ⟨[0, 1, 2, 3, 4, 29, 7, 27, 10, 24, 28, 30, 6, 51, 61, 67, 5], [2, 3, 4], [], 2, s25.1, [.cell 4 true 26, .tmp 5], 195⟩
theorem ok25 : FnM Tryz.prog 25 fun25 := SC.okM s25 rfl (fn := Tryz.f25) (by kernel_rfl) (by kernel_rfl)
noncomputable def s26 : SC (Tryz.f26.body.getD .skip) := SC.mk' (by simp only [Tryz.f26, go_sem]; rfl)
noncomputable def fun26 : Fun := ⟨[0, 1, 2, 3, 11, 8, 9, 12, 4, 5, 22, 10], [4, 5, 8, 9], [], 4, s26.1, [.cell 8 true 11, .cell 9 true 26, .tmp 10], 845⟩
theorem ok26 : FnM Tryz.prog 26 fun26 := SC.okM s26 rfl (fn := Tryz.f26) (by kernel_rfl) (by kernel_rfl)
noncomputable def s39 : SC (Tryz.f39.body.getD .skip) := SC.mk' (by simp only [Tryz.f39, go_sem]; rfl)
noncomputable def fun39 : Fun := ⟨[2, 1, 3, 5, 0], [1, 2], [], 0, s39.1, [.tmp 0], 1430⟩
theorem ok39 : FnM Tryz.prog 39 fun39 := SC.okM s39 rfl (fn := Tryz.f39) (by kernel_rfl) (by kernel_rfl)
noncomputable def s41 : SC (Tryz.f41.body.getD .skip) := SC.mk' (by simp only [Tryz.f41, go_sem]; rfl)
noncomputable def fun41 : Fun := ⟨[0, 1, 2, 6], [6], [], 3, s41.1, [.cell 6 true 8], 0⟩
theorem ok41 : FnM Tryz.prog 41 fun41 := SC.okM s41 rfl (fn := Tryz.f41) (by kernel_rfl) (by kernel_rfl)
noncomputable def s42 : SC (Tryz.f42.body.getD .skip) := SC.mk' (by simp only [Tryz.f42, go_sem]; rfl)
noncomputable def fun42 : Fun := ⟨[0, 1, 5, 7, 2, 4, 15], [2, 4, 5], [], 2, s42.1, [.cell 4 true 11], 1170⟩
theorem ok42 : FnM Tryz.prog 42 fun42 := SC.okM s42 rfl (fn := Tryz.f42) (by kernel_rfl) (by kernel_rfl)
noncomputable def s72 : SC (Tryz.f72.body.getD .skip) := SC.mk' (by simp only [Tryz.f72, go_sem]; rfl)
noncomputable def fun72 : Fun := ⟨[0, 1, 2, 8, 3], [1, 2], [], 1, s72.1, [.cell 2 true 26, .tmp 3], 130⟩
theorem ok72 : FnM Tryz.prog 72 fun72 := SC.okM s72 rfl (fn := Tryz.f72) (by kernel_rfl) (by kernel_rfl)
noncomputable def s81 : SC (Tryz.f81.body.getD .skip) := SC.mk' (by simp only [Tryz.f81, go_sem]; rfl)
noncomputable def fun81 : Fun := ⟨[0, 4, 1, 3, 9, 18, 2], [1], [], 1, s81.1, [.tmp 2], 0⟩
theorem ok81 : FnM Tryz.prog 81 fun81 := SC.okM s81 rfl (fn := Tryz.f81) (by kernel_rfl) (by kernel_rfl)
noncomputable def s92 : SC (Tryz.f92.body.getD .skip) := SC.mk' (by simp only [Tryz.f92, go_sem]; rfl)
noncomputable def fun92 : Fun := ⟨[0, 1, 2, 3, 6], [3, 6], [], 3, s92.1, [.cell 6 true 63], 130⟩
theorem ok92 : FnM Tryz.prog 92 fun92 := SC.okM s92 rfl (fn := Tryz.f92) (by kernel_rfl) (by kernel_rfl)
noncomputable def s93 : SC (Tryz.f93.body.getD .skip) := SC.mk' (by simp only [Tryz.f93, go_sem]; rfl)
noncomputable def fun93 : Fun := ⟨[0, 1, 2, 3, 5, 4, 8], [4, 5, 8], [], 4, s93.1, [.cell 8 true 63], 195⟩
theorem ok93 : FnM Tryz.prog 93 fun93 := SC.okM s93 rfl (fn := Tryz.f93) (by kernel_rfl) (by kernel_rfl)
noncomputable def s94 : SC (Tryz.f94.body.getD .skip) := SC.mk' (by simp only [Tryz.f94, go_sem]; rfl)
noncomputable def fun94 : Fun := ⟨[0, 1, 2, 4, 12, 6, 7, 11, 13, 3, 26, 8, 9, 10], [3, 4, 6, 7, 11, 12], [], 3, s94.1, [.cell 6 true 11, .cell 7 true 63, .tmp 8, .tmp 9, .tmp 10], 845⟩
theorem ok94 : FnM Tryz.prog 94 fun94 := SC.okM s94 rfl (fn := Tryz.f94) (by kernel_rfl) (by kernel_rfl)
noncomputable def s102 : SC (Tryz.f102.body.getD .skip) := SC.mk' (by simp only [Tryz.f102, go_sem]; rfl)
noncomputable def fun102 : Fun := ⟨[0, 1, 2], [1], [], 1, s102.1, [.tmp 2], 260⟩
theorem ok102 : FnM Tryz.prog 102 fun102 := SC.okM s102 rfl (fn := Tryz.f102) (by kernel_rfl) (by kernel_rfl)
noncomputable def s128 : SC (Tryz.f128.body.getD .skip) := SC.mk' (by simp only [Tryz.f128, go_sem]; rfl)
noncomputable def fun128 : Fun := ⟨[0, 1, 2, 4, 5, 13, 3], [1, 2, 4], [], 1, s128.1, [.cell 2 true 26, .tmp 3], 65⟩
theorem ok128 : FnM Tryz.prog 128 fun128 := SC.okM s128 rfl (fn := Tryz.f128) (by kernel_rfl) (by kernel_rfl)
noncomputable def s141 : SC (Tryz.f141.body.getD .skip) := SC.mk' (by simp only [Tryz.f141, go_sem]; rfl)
noncomputable def fun141 : Fun := ⟨[0, 1, 2, 6], [], [], 3, s141.1, [.tmp 6], 0⟩
theorem ok141 : FnM Tryz.prog 141 fun141 := SC.okM s141 rfl (fn := Tryz.f141) (by kernel_rfl) (by kernel_rfl)
noncomputable def s162 : SC (Tryz.f162.body.getD .skip) := SC.mk' (by simp only [Tryz.f162, go_sem]; rfl)
noncomputable def fun162 : Fun := ⟨[0, 13, 1, 3, 11, 5, 12, 14, 2], [1, 5], [], 1, s162.1, [.tmp 2], 260⟩
theorem ok162 : FnM Tryz.prog 162 fun162 := SC.okM s162 rfl (fn := Tryz.f162) (by kernel_rfl) (by kernel_rfl)
noncomputable def s188 : SC (Tryz.f188.body.getD .skip) := SC.mk' (by simp only [Tryz.f188, go_sem]; rfl)
noncomputable def fun188 : Fun := ⟨[0, 1, 2, 4, 6, 7, 15, 3, 9, 11, 56, 12, 13, 16, 10, 32, 36, 47, 49, 73, 90, 94, 101, 109, 8], [3, 4, 6, 7, 9, 12], [], 3, s188.1, [.cell 6 true 11, .cell 7 true 5, .tmp 8], 130⟩
theorem ok188 : FnM Tryz.prog 188 fun188 := SC.okM s188 rfl (fn := Tryz.f188) (by kernel_rfl) (by kernel_rfl)
noncomputable def s203 : SC (Tryz.f203.body.getD .skip) := SC.mk' (by simp only [Tryz.f203, go_sem]; rfl)
noncomputable def fun203 : Fun := ⟨[0, 1, 2, 4, 6, 7, 10, 3, 20, 11, 30, 38, 8], [3, 4, 6, 7], [], 3, s203.1, [.cell 6 true 11, .cell 7 true 5, .tmp 8], 260⟩
theorem ok203 : FnM Tryz.prog 203 fun203 := SC.okM s203 rfl (fn := Tryz.f203) (by kernel_rfl) (by kernel_rfl)
noncomputable def s206 : SC (Tryz.f206.body.getD .skip) := SC.mk' (by simp only [Tryz.f206, go_sem]; rfl)
noncomputable def fun206 : Fun := ⟨[0, 1, 2, 4, 14, 5], [2, 4], [], 2, s206.1, [.cell 4 true 4, .tmp 5], 0⟩
theorem ok206 : FnM Tryz.prog 206 fun206 := SC.okM s206 rfl (fn := Tryz.f206) (by kernel_rfl) (by kernel_rfl)
noncomputable def s207 : SC (Tryz.f207.body.getD .skip) := SC.mk' (by simp only [Tryz.f207, go_sem]; rfl)
noncomputable def fun207 : Fun := ⟨[0, 2], [], [], 1, s207.1, [.tmp 2], 0⟩
theorem ok207 : FnM Tryz.prog 207 fun207 := SC.okM s207 rfl (fn := Tryz.f207) (by kernel_rfl) (by kernel_rfl)
noncomputable def s219 : SC (Tryz.f219.body.getD .skip) := SC.mk' (by simp only [Tryz.f219, go_sem]; rfl)
noncomputable def fun219 : Fun := ⟨[0, 1, 2, 3, 6, 5, 9, 13, 22, 28, 7, 8], [3, 5, 6], [], 3, s219.1, [.cell 6 true 11, .tmp 7, .tmp 8], 325⟩
theorem ok219 : FnM Tryz.prog 219 fun219 := SC.okM s219 rfl (fn := Tryz.f219) (by kernel_rfl) (by kernel_rfl)
noncomputable def s225 : SC (Tryz.f225.body.getD .skip) := SC.mk' (by simp only [Tryz.f225, go_sem]; rfl)
noncomputable def fun225 : Fun := ⟨[0, 1, 4], [], [], 2, s225.1, [.tmp 4], 0⟩
theorem ok225 : FnM Tryz.prog 225 fun225 := SC.okM s225 rfl (fn := Tryz.f225) (by kernel_rfl) (by kernel_rfl)
noncomputable def s226 : SC (Tryz.f226.body.getD .skip) := SC.mk' (by simp only [Tryz.f226, go_sem]; rfl)
noncomputable def fun226 : Fun := ⟨[0, 1, 2, 4, 6, 7, 3, 15, 32, 11, 10, 12, 14, 18, 19, 136, 24, 33, 43, 58, 13, 72, 80, 95, 16, 17, 115, 122, 20, 132, 137, 146, 8, 9], [3, 4, 6, 7, 11, 12, 15, 19], [], 3, s226.1, [.cell 6 true 11, .cell 7 true 63, .tmp 8, .tmp 9], 910⟩
theorem ok226 : FnM Tryz.prog 226 fun226 := SC.okM s226 rfl (fn := Tryz.f226) (by kernel_rfl) (by kernel_rfl)
noncomputable def s236 : SC (Tryz.f236.body.getD .skip) := SC.mk' (by simp only [Tryz.f236, go_sem]; rfl)
noncomputable def fun236 : Fun := ⟨[0, 1, 2, 9, 8, 27, 33, 6, 7], [], [], 3, s236.1, [.tmp 6, .tmp 7], 0⟩
theorem ok236 : FnM Tryz.prog 236 fun236 := SC.okM s236 rfl (fn := Tryz.f236) (by kernel_rfl) (by kernel_rfl)
noncomputable def s238 : SC (Tryz.f238.body.getD .skip) := SC.mk' (by simp only [Tryz.f238, go_sem]; rfl)
noncomputable def fun238 : Fun := ⟨[0, 1, 6, 7, 8, 3, 4, 5, 13, 19, 31, 43, 49, 55, 61, 81, 85, 96, 2], [1], [], 1, s238.1, [.tmp 2], 390⟩
theorem ok238 : FnM Tryz.prog 238 fun238 := SC.okM s238 rfl (fn := Tryz.f238) (by kernel_rfl) (by kernel_rfl)
noncomputable def s248 : SC (Tryz.f248.body.getD .skip) := SC.mk' (by simp only [Tryz.f248, go_sem]; rfl)
noncomputable def fun248 : Fun := ⟨[0, 1, 4, 3, 8, 2], [1], [], 1, s248.1, [.tmp 2], 0⟩
theorem ok248 : FnM Tryz.prog 248 fun248 := SC.okM s248 rfl (fn := Tryz.f248) (by kernel_rfl) (by kernel_rfl)
noncomputable def s255 : SC (Tryz.f255.body.getD .skip) := SC.mk' (by simp only [Tryz.f255, go_sem]; rfl)
noncomputable def fun255 : Fun := ⟨[0, 4, 2], [], [], 1, s255.1, [.tmp 2], 0⟩
theorem ok255 : FnM Tryz.prog 255 fun255 := SC.okM s255 rfl (fn := Tryz.f255) (by kernel_rfl) (by kernel_rfl)
noncomputable def s262 : SC (Tryz.f262.body.getD .skip) := SC.mk' (by simp only [Tryz.f262, go_sem]; rfl)
noncomputable def fun262 : Fun := ⟨[0, 1, 2, 6], [], [], 3, s262.1, [.tmp 6], 0⟩
theorem ok262 : FnM Tryz.prog 262 fun262 := SC.okM s262 rfl (fn := Tryz.f262) (by kernel_rfl) (by kernel_rfl)
noncomputable def s280 : SC (Tryz.f280.body.getD .skip) := SC.mk' (by simp only [Tryz.f280, go_sem]; rfl)
noncomputable def fun280 : Fun := ⟨[0, 1, 2, 3, 4, 8, 7, 10, 11, 17, 23, 39, 9], [4, 7, 8], [], 4, s280.1, [.cell 8 true 11, .tmp 9], 455⟩
theorem ok280 : FnM Tryz.prog 280 fun280 := SC.okM s280 rfl (fn := Tryz.f280) (by kernel_rfl) (by kernel_rfl)
noncomputable def s283 : SC (Tryz.f283.body.getD .skip) := SC.mk' (by simp only [Tryz.f283, go_sem]; rfl)
noncomputable def fun283 : Fun := ⟨[0, 1, 2, 3, 8, 4, 5, 10, 20, 25, 30, 46, 11, 12, 9], [4, 5, 8], [], 4, s283.1, [.cell 8 true 4, .tmp 9], 585⟩
theorem ok283 : FnM Tryz.prog 283 fun283 := SC.okM s283 rfl (fn := Tryz.f283) (by kernel_rfl) (by kernel_rfl)
noncomputable def s284 : SC (Tryz.f284.body.getD .skip) := SC.mk' (by simp only [Tryz.f284, go_sem]; rfl)
noncomputable def fun284 : Fun := ⟨[0, 1, 2, 4, 3, 6, 7, 10, 21, 9, 38, 42, 53, 55, 8], [3, 4, 6, 7], [], 3, s284.1, [.cell 6 true 11, .cell 7 true 5, .tmp 8], 195⟩
theorem ok284 : FnM Tryz.prog 284 fun284 := SC.okM s284 rfl (fn := Tryz.f284) (by kernel_rfl) (by kernel_rfl)
noncomputable def s290 : SC (Tryz.f290.body.getD .skip) := SC.mk' (by simp only [Tryz.f290, go_sem]; rfl)
noncomputable def fun290 : Fun := ⟨[0, 1, 2, 4], [2], [], 2, s290.1, [.tmp 4], 0⟩
theorem ok290 : FnM Tryz.prog 290 fun290 := SC.okM s290 rfl (fn := Tryz.f290) (by kernel_rfl) (by kernel_rfl)
noncomputable def s296 : SC (Tryz.f296.body.getD .skip) := SC.mk' (by simp only [Tryz.f296, go_sem]; rfl)
noncomputable def fun296 : Fun := ⟨[0, 1, 3], [], [], 2, s296.1, [.tmp 3], 0⟩
theorem ok296 : FnM Tryz.prog 296 fun296 := SC.okM s296 rfl (fn := Tryz.f296) (by kernel_rfl) (by kernel_rfl)
noncomputable def s332 : SC (Tryz.f332.body.getD .skip) := SC.mk' (by simp only [Tryz.f332, go_sem]; rfl)
noncomputable def fun332 : Fun := ⟨[0, 1, 4], [], [], 2, s332.1, [.tmp 4], 841⟩
theorem ok332 : FnM Tryz.prog 332 fun332 := SC.okM s332 rfl (fn := Tryz.f332) (by kernel_rfl) (by kernel_rfl)
noncomputable def s353 : SC (Tryz.f353.body.getD .skip) := SC.mk' (by simp only [Tryz.f353, go_sem]; rfl)
noncomputable def fun353 : Fun := ⟨[0, 2], [], [], 1, s353.1, [.tmp 2], 0⟩
theorem ok353 : FnM Tryz.prog 353 fun353 := SC.okM s353 rfl (fn := Tryz.f353) (by kernel_rfl) (by kernel_rfl)
noncomputable def s365 : SC (Tryz.f365.body.getD .skip) := SC.mk' (by simp only [Tryz.f365, go_sem]; rfl)
noncomputable def fun365 : Fun := ⟨[0, 1, 2, 4], [2], [], 2, s365.1, [.tmp 4], 0⟩
theorem ok365 : FnM Tryz.prog 365 fun365 := SC.okM s365 rfl (fn := Tryz.f365) (by kernel_rfl) (by kernel_rfl)
end Go.M
