/-
  The codes of functions, as the machine takes them.
  No condition: definitions and lemmas.
-/
import Derived.Test.YthhjbngoibmpgaaGreatQtym
set_option linter.all false
set_option maxRecDepth 100000
set_option maxHeartbeats 4000000
namespace Go.M
open Go Go.Proofs
open Go.Eng (SOp SOper SCode sizeP aggP zerosOf bytesP zeroVal stripCode stripOps stripOper strip stripParts kindsOf)

noncomputable def s35 : SC (Tryz.f35.body.getD .skip) := SC.mk' (by simp only [Tryz.f35, go_sem]; rfl)
noncomputable def fun35 : Fun := ⟨[0, 1, 3, 6, 9, 7, 8, 5, 10, 11, 4, 12, 31, 36, 59, 64, 69, 88, 93, 105, 108, 139, 142, 152, 161, 2], [1, 6], [], 1, s35.1, [.tmp 2], 65⟩
theorem ok35 : FnM Tryz.prog 35 fun35 := SC.okM s35 rfl (fn := Tryz.f35) (by kernel_rfl) (by kernel_rfl)
noncomputable def s44 : SC (Tryz.f44.body.getD .skip) := SC.mk' (by simp only [Tryz.f44, go_sem]; rfl)
noncomputable def fun44 : Fun := ⟨[0, 1, 5, 9, 18, 4], [], [], 2, s44.1, [.tmp 4], 0⟩
theorem ok44 : FnM Tryz.prog 44 fun44 := SC.okM s44 rfl (fn := Tryz.f44) (by kernel_rfl) (by kernel_rfl)
noncomputable def s115 : SC (Tryz.f115.body.getD .skip) := SC.mk' (by simp only [Tryz.f115, go_sem]; rfl)
noncomputable def fun115 : Fun := ⟨[0, 1, 2, 4, 3, 6, 7, 11, 17, 20, 34, 43, 5], [2, 3, 4], [], 2, s115.1, [.cell 4 true 8, .tmp 5], 585⟩
theorem ok115 : FnM Tryz.prog 115 fun115 := SC.okM s115 rfl (fn := Tryz.f115) (by kernel_rfl) (by kernel_rfl)
noncomputable def s120 : SC (Tryz.f120.body.getD .skip) := SC.mk' (by simp only [Tryz.f120, go_sem]; rfl)
noncomputable def fun120 : Fun := ⟨[0, 1, 2, 4], [2, 4], [], 2, s120.1, [.cell 4 true 26], 0⟩
theorem ok120 : FnM Tryz.prog 120 fun120 := SC.okM s120 rfl (fn := Tryz.f120) (by kernel_rfl) (by kernel_rfl)
noncomputable def s125 : SC (Tryz.f125.body.getD .skip) := SC.mk' (by simp only [Tryz.f125, go_sem]; rfl)
noncomputable def fun125 : Fun := ⟨[0, 1, 3, 4], [], [], 2, s125.1, [.tmp 4], 130⟩
theorem ok125 : FnM Tryz.prog 125 fun125 := SC.okM s125 rfl (fn := Tryz.f125) (by kernel_rfl) (by kernel_rfl)
noncomputable def s131 : SC (Tryz.f131.body.getD .skip) := SC.mk' (by simp only [Tryz.f131, go_sem]; rfl)
noncomputable def fun131 : Fun := ⟨[0, 3, 4, 5, 6, 28, 44, 64, 95, 2], [5], [], 1, s131.1, [.tmp 2], 130⟩
theorem ok131 : FnM Tryz.prog 131 fun131 := SC.okM s131 rfl (fn := Tryz.f131) (by kernel_rfl) (by kernel_rfl)
noncomputable def s135 : SC (Tryz.f135.body.getD .skip) := SC.mk' (by simp only [Tryz.f135, go_sem]; rfl)
noncomputable def fun135 : Fun := ⟨[0, 3, 6, 4, 5, 44, 71, 106, 134, 156, 2], [4, 5], [], 1, s135.1, [.tmp 2], 715⟩
theorem ok135 : FnM Tryz.prog 135 fun135 := SC.okM s135 rfl (fn := Tryz.f135) (by kernel_rfl) (by kernel_rfl)
noncomputable def s143 : SC (Tryz.f143.body.getD .skip) := SC.mk' (by simp only [Tryz.f143, go_sem]; rfl)
noncomputable def fun143 : Fun := ⟨[0, 2, 4, 5, 12, 3], [2, 4], [], 1, s143.1, [.cell 2 true 8, .tmp 3], 65⟩
theorem ok143 : FnM Tryz.prog 143 fun143 := SC.okM s143 rfl (fn := Tryz.f143) (by kernel_rfl) (by kernel_rfl)
noncomputable def s169 : SC (Tryz.f169.body.getD .skip) := SC.mk' (by simp only [Tryz.f169, go_sem]; rfl)
noncomputable def fun169 : Fun := ⟨[0, 4, 1, 10, 5, 2], [1], [], 1, s169.1, [.tmp 2], 0⟩
theorem ok169 : FnM Tryz.prog 169 fun169 := SC.okM s169 rfl (fn := Tryz.f169) (by kernel_rfl) (by kernel_rfl)
noncomputable def s183 : SC (Tryz.f183.body.getD .skip) := SC.mk' (by simp only [Tryz.f183, go_sem]; rfl)
noncomputable def fun183 : Fun := ⟨[0, 5, 11, 3, 2], [], [], 1, s183.1, [.tmp 2], 65⟩
theorem ok183 : FnM Tryz.prog 183 fun183 := SC.okM s183 rfl (fn := Tryz.f183) (by kernel_rfl) (by kernel_rfl)
noncomputable def s191 : SC (Tryz.f191.body.getD .skip) := SC.mk' (by simp only [Tryz.f191, go_sem]; rfl)
noncomputable def fun191 : Fun := ⟨[0, 1, 3, 2, 7, 9, 4, 5, 8, 21, 48, 6], [2, 3, 4, 5, 9], [], 2, s191.1, [.cell 4 true 11, .cell 5 true 26, .tmp 6], 130⟩
theorem ok191 : FnM Tryz.prog 191 fun191 := SC.okM s191 rfl (fn := Tryz.f191) (by kernel_rfl) (by kernel_rfl)
noncomputable def s192 : SC (Tryz.f192.body.getD .skip) := SC.mk' (by simp only [Tryz.f192, go_sem]; rfl)
noncomputable def fun192 : Fun := ⟨[0, 1, 2, 4, 23, 6, 8, 3, 10, 25, 30, 37, 42, 47, 7], [3, 4, 6], [], 3, s192.1, [.cell 6 true 4, .tmp 7], 65⟩
theorem ok192 : FnM Tryz.prog 192 fun192 := SC.okM s192 rfl (fn := Tryz.f192) (by kernel_rfl) (by kernel_rfl)
noncomputable def s201 : SC (Tryz.f201.body.getD .skip) := SC.mk' (by simp only [Tryz.f201, go_sem]; rfl)
noncomputable def fun201 : Fun := ⟨[0, 1, 2, 3], [2], [], 2, s201.1, [.tmp 3], 0⟩
theorem ok201 : FnM Tryz.prog 201 fun201 := SC.okM s201 rfl (fn := Tryz.f201) (by kernel_rfl) (by kernel_rfl)
noncomputable def s208 : SC (Tryz.f208.body.getD .skip) := SC.mk' (by simp only [Tryz.f208, go_sem]; rfl)
noncomputable def fun208 : Fun := ⟨[0, 1, 2, 4, 10, 16, 3], [1, 2], [], 1, s208.1, [.cell 2 true 4, .tmp 3], 65⟩
theorem ok208 : FnM Tryz.prog 208 fun208 := SC.okM s208 rfl (fn := Tryz.f208) (by kernel_rfl) (by kernel_rfl)
noncomputable def s217 : SC (Tryz.f217.body.getD .skip) := SC.mk' (by simp only [Tryz.f217, go_sem]; rfl)
noncomputable def fun217 : Fun := ⟨[0, 1, 2], [1, 2], [], 1, s217.1, [.cell 2 true 3], 0⟩
theorem ok217 : FnM Tryz.prog 217 fun217 := SC.okM s217 rfl (fn := Tryz.f217) (by kernel_rfl) (by kernel_rfl)
noncomputable def s218 : SC (Tryz.f218.body.getD .skip) := SC.mk' (by simp only [Tryz.f218, go_sem]; rfl)
noncomputable def fun218 : Fun := ⟨[0, 1, 2, 3, 4, 6, 7, 11, 15, 20, 30, 58, 5], [3, 4], [46], 2, s218.1, [.cell 4 true 3, .tmp 5], 325⟩
theorem ok218 : FnM Tryz.prog 218 fun218 := SC.okM s218 rfl (fn := Tryz.f218) (by kernel_rfl) (by kernel_rfl)
noncomputable def s221 : SC (Tryz.f221.body.getD .skip) := SC.mk' (by simp only [Tryz.f221, go_sem]; rfl)
noncomputable def fun221 : Fun := ⟨[0, 1, 3, 7, 11, 2], [1], [], 1, s221.1, [.tmp 2], 455⟩
theorem ok221 : FnM Tryz.prog 221 fun221 := SC.okM s221 rfl (fn := Tryz.f221) (by kernel_rfl) (by kernel_rfl)
noncomputable def s223 : SC (Tryz.f223.body.getD .skip) := SC.mk' (by simp only [Tryz.f223, go_sem]; rfl)
noncomputable def fun223 : Fun := ⟨[0, 1, 5, 2], [1], [], 1, s223.1, [.tmp 2], 195⟩
theorem ok223 : FnM Tryz.prog 223 fun223 := SC.okM s223 rfl (fn := Tryz.f223) (by kernel_rfl) (by kernel_rfl)
noncomputable def s247 : SC (Tryz.f247.body.getD .skip) := SC.mk' (by simp only [Tryz.f247, go_sem]; rfl)
noncomputable def fun247 : Fun := ⟨[0, 1, 3, 5, 8, 4, 6, 7, 39, 44, 58, 64, 73, 78, 89, 2], [1], [], 1, s247.1, [.tmp 2], 130⟩
theorem ok247 : FnM Tryz.prog 247 fun247 := SC.okM s247 rfl (fn := Tryz.f247) (by kernel_rfl) (by kernel_rfl)
noncomputable def s261 : SC (Tryz.f261.body.getD .skip) := SC.mk' (by simp only [Tryz.f261, go_sem]; rfl)
noncomputable def fun261 : Fun := ⟨[0, 4, 5, 3, 8, 12, 20, 24, 35, 39, 52, 2], [], [], 1, s261.1, [.tmp 2], 65⟩
theorem ok261 : FnM Tryz.prog 261 fun261 := SC.okM s261 rfl (fn := Tryz.f261) (by kernel_rfl) (by kernel_rfl)
noncomputable def s270 : SC (Tryz.f270.body.getD .skip) := SC.mk' (by simp only [Tryz.f270, go_sem]; rfl)
noncomputable def fun270 : Fun := ⟨[0, 1, 2, 6, 3], [1, 2], [], 1, s270.1, [.cell 2 true 5, .tmp 3], 0⟩
theorem ok270 : FnM Tryz.prog 270 fun270 := SC.okM s270 rfl (fn := Tryz.f270) (by kernel_rfl) (by kernel_rfl)
noncomputable def s274 : SC (Tryz.f274.body.getD .skip) := SC.mk' (by simp only [Tryz.f274, go_sem]; rfl)
noncomputable def fun274 : Fun := ⟨[0, 1, 2, 4, 14, 20, 3], [1, 2], [], 1, s274.1, [.cell 2 true 4, .tmp 3], 0⟩
theorem ok274 : FnM Tryz.prog 274 fun274 := SC.okM s274 rfl (fn := Tryz.f274) (by kernel_rfl) (by kernel_rfl)
noncomputable def s291 : SC (Tryz.f291.body.getD .skip) := SC.mk' (by simp only [Tryz.f291, go_sem]; rfl)
noncomputable def fun291 : Fun := ⟨[0, 1, 2, 6, 7, 11, 15, 4, 5], [2], [], 2, s291.1, [.tmp 4, .tmp 5], 0⟩
theorem ok291 : FnM Tryz.prog 291 fun291 := SC.okM s291 rfl (fn := Tryz.f291) (by kernel_rfl) (by kernel_rfl)
noncomputable def s297 : SC (Tryz.f297.body.getD .skip) := SC.mk' (by simp only [Tryz.f297, go_sem]; rfl)
noncomputable def fun297 : Fun := ⟨[0, 4, 2], [], [], 1, s297.1, [.tmp 2], 0⟩
theorem ok297 : FnM Tryz.prog 297 fun297 := SC.okM s297 rfl (fn := Tryz.f297) (by kernel_rfl) (by kernel_rfl)
noncomputable def s299 : SC (Tryz.f299.body.getD .skip) := SC.mk' (by simp only [Tryz.f299, go_sem]; rfl)
noncomputable def fun299 : Fun := ⟨[0, 1, 2, 6, 7, 3, 4, 35, 5], [2, 3, 4], [], 2, s299.1, [.cell 4 true 3, .tmp 5], 195⟩
theorem ok299 : FnM Tryz.prog 299 fun299 := SC.okM s299 rfl (fn := Tryz.f299) (by kernel_rfl) (by kernel_rfl)
noncomputable def s311 : SC (Tryz.f311.body.getD .skip) := SC.mk' (by simp only [Tryz.f311, go_sem]; rfl)
noncomputable def fun311 : Fun := ⟨[0, 2, 9, 3], [2], [], 1, s311.1, [.cell 2 true 2, .tmp 3], 0⟩
theorem ok311 : FnM Tryz.prog 311 fun311 := SC.okM s311 rfl (fn := Tryz.f311) (by kernel_rfl) (by kernel_rfl)
noncomputable def s331 : SC (Tryz.f331.body.getD .skip) := SC.mk' (by simp only [Tryz.f331, go_sem]; rfl)
noncomputable def fun331 : Fun := ⟨[0, 1, 2], [1], [], 1, s331.1, [.tmp 2], 65⟩
theorem ok331 : FnM Tryz.prog 331 fun331 := SC.okM s331 rfl (fn := Tryz.f331) (by kernel_rfl) (by kernel_rfl)
noncomputable def s335 : SC (Tryz.f335.body.getD .skip) := SC.mk' (by simp only [Tryz.f335, go_sem]; rfl)
noncomputable def fun335 : Fun := ⟨[0, 1, 2, 3, 4], [2], [], 2, s335.1, [.tmp 4], 645⟩
theorem ok335 : FnM Tryz.prog 335 fun335 := SC.okM s335 rfl (fn := Tryz.f335) (by kernel_rfl) (by kernel_rfl)
noncomputable def s354 : SC (Tryz.f354.body.getD .skip) := SC.mk' (by simp only [Tryz.f354, go_sem]; rfl)
noncomputable def fun354 : Fun := ⟨[0, 1, 2, 3, 6, 11], [3, 6], [], 3, s354.1, [.cell 6 true 11], 0⟩
theorem ok354 : FnM Tryz.prog 354 fun354 := SC.okM s354 rfl (fn := Tryz.f354) (by kernel_rfl) (by kernel_rfl)
noncomputable def s358 : SC (Tryz.f358.body.getD .skip) := SC.mk' (by simp only [Tryz.f358, go_sem]; rfl)
noncomputable def fun358 : Fun := ⟨[0, 1, 2, 3, 6, 9, 10, 23, 26, 7, 8], [3, 6], [], 3, s358.1, [.cell 6 true 11, .tmp 7, .tmp 8], 130⟩
theorem ok358 : FnM Tryz.prog 358 fun358 := SC.okM s358 rfl (fn := Tryz.f358) (by kernel_rfl) (by kernel_rfl)
noncomputable def s367 : SC (Tryz.f367.body.getD .skip) := SC.mk' (by simp only [Tryz.f367, go_sem]; rfl)
noncomputable def fun367 : Fun := ⟨[0, 1, 8, 5, 7, 9, 16, 4], [], [], 2, s367.1, [.tmp 4], 776⟩
theorem ok367 : FnM Tryz.prog 367 fun367 := SC.okM s367 rfl (fn := Tryz.f367) (by kernel_rfl) (by kernel_rfl)
noncomputable def s369 : SC (Tryz.f369.body.getD .skip) := SC.mk' (by simp only [Tryz.f369, go_sem]; rfl)
noncomputable def fun369 : Fun := ⟨[0, 1, 38, 42, 2], [1], [], 1, s369.1, [.tmp 2], 65⟩
theorem ok369 : FnM Tryz.prog 369 fun369 := SC.okM s369 rfl (fn := Tryz.f369) (by kernel_rfl) (by kernel_rfl)
noncomputable def s400 : SC (Tryz.f400.body.getD .skip) := SC.mk' (by simp only [Tryz.f400, go_sem]; rfl)
noncomputable def fun400 : Fun := ⟨[0, 1, 8, 5, 7, 9, 16, 4], [], [], 2, s400.1, [.tmp 4], 0⟩
theorem ok400 : FnM Tryz.prog 400 fun400 := SC.okM s400 rfl (fn := Tryz.f400) (by kernel_rfl) (by kernel_rfl)
noncomputable def s405 : SC (Tryz.f405.body.getD .skip) := SC.mk' (by simp only [Tryz.f405, go_sem]; rfl)
noncomputable def fun405 : Fun := ⟨[0, 13, 5, 11, 4, 8, 10, 12, 14, 3, 23, 28, 36, 2], [4], [], 1, s405.1, [.tmp 2], 260⟩
theorem ok405 : FnM Tryz.prog 405 fun405 := SC.okM s405 rfl (fn := Tryz.f405) (by kernel_rfl) (by kernel_rfl)
noncomputable def s406 : SC (Tryz.f406.body.getD .skip) := SC.mk' (by simp only [Tryz.f406, go_sem]; rfl)
noncomputable def fun406 : Fun := ⟨[0, 1, 15, 4, 13, 11, 14, 16, 28, 2], [1, 4], [], 1, s406.1, [.tmp 2], 130⟩
theorem ok406 : FnM Tryz.prog 406 fun406 := SC.okM s406 rfl (fn := Tryz.f406) (by kernel_rfl) (by kernel_rfl)
noncomputable def s418 : SC (Tryz.f418.body.getD .skip) := SC.mk' (by simp only [Tryz.f418, go_sem]; rfl)
noncomputable def fun418 : Fun := ⟨[0, 1, 2, 6], [], [], 3, s418.1, [.tmp 6], 0⟩
theorem ok418 : FnM Tryz.prog 418 fun418 := SC.okM s418 rfl (fn := Tryz.f418) (by kernel_rfl) (by kernel_rfl)
end Go.M
