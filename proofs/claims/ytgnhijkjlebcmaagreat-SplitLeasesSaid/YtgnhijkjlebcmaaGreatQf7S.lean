/-
  The codes of functions, as the machine takes them.
  No condition: definitions and lemmas.
-/
import Derived.Test.YtgnhijkjlebcmaaGreatQtyS
set_option linter.all false
set_option maxRecDepth 100000
set_option maxHeartbeats 4000000
namespace Go.M
open Go Go.Proofs
open Go.Eng (SOp SOper SCode sizeP aggP zerosOf bytesP zeroVal stripCode stripOps stripOper strip stripParts kindsOf kinds2)
noncomputable def s36 : SC (Tryz.f36.body.getD .skip) := SC.mk' (by simp only [Tryz.f36, go_sem]; rfl)
noncomputable def fun36 : Fun := ⟨[0, 1, 2, 4, 11, 6, 7, 10, 3, 78, 79, 95, 12, 21, 47, 68, 86, 96, 104, 114, 122, 8, 9], [3, 4, 6, 7, 12], [], 3, s36.1, [.cell 6 true 11, .cell 7 true 63, .tmp 8, .tmp 9], 1300⟩
theorem ok36 : FnM Tryz.prog 36 fun36 := SC.okM s36 rfl (fn := Tryz.f36) (by kernel_rfl) (by kernel_rfl)
noncomputable def s39 : SC (Tryz.f39.body.getD .skip) := SC.mk' (by simp only [Tryz.f39, go_sem]; rfl)
noncomputable def fun39 : Fun := ⟨[0, 1, 2, 3, 8, 20, 6], [3], [], 3, s39.1, [.tmp 6], 0⟩
theorem ok39 : FnM Tryz.prog 39 fun39 := SC.okM s39 rfl (fn := Tryz.f39) (by kernel_rfl) (by kernel_rfl)
noncomputable def s43 : SC (Tryz.f43.body.getD .skip) := SC.mk' (by simp only [Tryz.f43, go_sem]; rfl)
noncomputable def fun43 : Fun := ⟨[0, 1, 2, 3, 7, 4, 6, 36], [3, 4, 6, 7], [], 3, s43.1, [.cell 6 true 63], 65⟩
theorem ok43 : FnM Tryz.prog 43 fun43 := SC.okM s43 rfl (fn := Tryz.f43) (by kernel_rfl) (by kernel_rfl)
noncomputable def s44 : SC (Tryz.f44.body.getD .skip) := SC.mk' (by simp only [Tryz.f44, go_sem]; rfl)
noncomputable def fun44 : Fun := ⟨[0, 1, 2, 3, 6], [3, 6], [], 3, s44.1, [.cell 6 true 63], 130⟩
theorem ok44 : FnM Tryz.prog 44 fun44 := SC.okM s44 rfl (fn := Tryz.f44) (by kernel_rfl) (by kernel_rfl)
noncomputable def s66 : SC (Tryz.f66.body.getD .skip) := SC.mk' (by simp only [Tryz.f66, go_sem]; rfl)
noncomputable def fun66 : Fun := ⟨[0, 4, 1, 10, 5, 2], [1], [], 1, s66.1, [.tmp 2], 0⟩
theorem ok66 : FnM Tryz.prog 66 fun66 := SC.okM s66 rfl (fn := Tryz.f66) (by kernel_rfl) (by kernel_rfl)
noncomputable def s70 : SC (Tryz.f70.body.getD .skip) := SC.mk' (by simp only [Tryz.f70, go_sem]; rfl)
noncomputable def fun70 : Fun := ⟨[0, 1, 4, 6, 7, 14, 22, 5], [4, 6], [], 2, s70.1, [.cell 4 true 26, .tmp 5], 130⟩
theorem ok70 : FnM Tryz.prog 70 fun70 := SC.okM s70 rfl (fn := Tryz.f70) (by kernel_rfl) (by kernel_rfl)
noncomputable def s82 : SC (Tryz.f82.body.getD .skip) := SC.mk' (by simp only [Tryz.f82, go_sem]; rfl)
noncomputable def fun82 : Fun := ⟨[0, 1, 3, 7, 11, 2], [1], [], 1, s82.1, [.tmp 2], 455⟩
theorem ok82 : FnM Tryz.prog 82 fun82 := SC.okM s82 rfl (fn := Tryz.f82) (by kernel_rfl) (by kernel_rfl)
noncomputable def s91 : SC (Tryz.f91.body.getD .skip) := SC.mk' (by simp only [Tryz.f91, go_sem]; rfl)
noncomputable def fun91 : Fun := ⟨[0, 2], [], [], 1, s91.1, [.tmp 2], 65⟩
theorem ok91 : FnM Tryz.prog 91 fun91 := SC.okM s91 rfl (fn := Tryz.f91) (by kernel_rfl) (by kernel_rfl)
noncomputable def s119 : SC (Tryz.f119.body.getD .skip) := SC.mk' (by simp only [Tryz.f119, go_sem]; rfl)
noncomputable def fun119 : Fun := ⟨[0, 17, 2, 5, 15, 4, 13, 16, 18, 40, 3], [2], [], 1, s119.1, [.cell 2 true 5, .tmp 3], 65⟩
theorem ok119 : FnM Tryz.prog 119 fun119 := SC.okM s119 rfl (fn := Tryz.f119) (by kernel_rfl) (by kernel_rfl)
noncomputable def s133 : SC (Tryz.f133.body.getD .skip) := SC.mk' (by simp only [Tryz.f133, go_sem]; rfl)
noncomputable def fun133 : Fun := ⟨[0, 1, 2, 3, 4, 5, 11, 6, 15, 28, 34, 10], [5, 6], [], 5, s133.1, [.tmp 10], 585⟩
theorem ok133 : FnM Tryz.prog 133 fun133 := SC.okM s133 rfl (fn := Tryz.f133) (by kernel_rfl) (by kernel_rfl)
noncomputable def s160 : SC (Tryz.f160.body.getD .skip) := SC.mk' (by simp only [Tryz.f160, go_sem]; rfl)
noncomputable def fun160 : Fun := ⟨[0, 2, 9, 3], [2], [], 1, s160.1, [.cell 2 true 2, .tmp 3], 0⟩
theorem ok160 : FnM Tryz.prog 160 fun160 := SC.okM s160 rfl (fn := Tryz.f160) (by kernel_rfl) (by kernel_rfl)
noncomputable def s166 : SC (Tryz.f166.body.getD .skip) := SC.mk' (by simp only [Tryz.f166, go_sem]; rfl)
noncomputable def fun166 : Fun := ⟨[0, 3, 8, 7, 1, 6, 2, 20, 9], [1, 2, 3, 4, 8], [], 1, s166.1, [.cell 2 true 7], 650⟩
theorem ok166 : FnM Tryz.prog 166 fun166 := SC.okM s166 rfl (fn := Tryz.f166) (by kernel_rfl) (by kernel_rfl)
noncomputable def s183 : SC (Tryz.f183.body.getD .skip) := SC.mk' (by simp only [Tryz.f183, go_sem]; rfl)
noncomputable def fun183 : Fun := ⟨[0, 3, 31, 2], [], [], 1, s183.1, [.tmp 2], 130⟩
theorem ok183 : FnM Tryz.prog 183 fun183 := SC.okM s183 rfl (fn := Tryz.f183) (by kernel_rfl) (by kernel_rfl)
noncomputable def s184 : SC (Tryz.f184.body.getD .skip) := SC.mk' (by simp only [Tryz.f184, go_sem]; rfl)
noncomputable def fun184 : Fun := ⟨[0, 3, 4, 5, 6, 28, 50, 60, 86, 114, 133, 139, 153, 2], [3], [], 1, s184.1, [.tmp 2], 520⟩
theorem ok184 : FnM Tryz.prog 184 fun184 := SC.okM s184 rfl (fn := Tryz.f184) (by kernel_rfl) (by kernel_rfl)
noncomputable def s197 : SC (Tryz.f197.body.getD .skip) := SC.mk' (by simp only [Tryz.f197, go_sem]; rfl)
noncomputable def fun197 : Fun := ⟨[0, 1, 2, 4, 3, 14, 6, 7, 9, 13, 10, 11, 27, 12, 58, 93, 8], [3, 4, 6, 7, 11, 13], [], 3, s197.1, [.cell 6 true 11, .cell 7 true 26, .tmp 8], 195⟩
theorem ok197 : FnM Tryz.prog 197 fun197 := SC.okM s197 rfl (fn := Tryz.f197) (by kernel_rfl) (by kernel_rfl)
noncomputable def s204 : SC (Tryz.f204.body.getD .skip) := SC.mk' (by simp only [Tryz.f204, go_sem]; rfl)
noncomputable def fun204 : Fun := ⟨[0, 1, 3, 5, 8, 4, 6, 7, 39, 44, 58, 64, 73, 78, 89, 2], [1], [], 1, s204.1, [.tmp 2], 130⟩
theorem ok204 : FnM Tryz.prog 204 fun204 := SC.okM s204 rfl (fn := Tryz.f204) (by kernel_rfl) (by kernel_rfl)
noncomputable def s206 : SC (Tryz.f206.body.getD .skip) := SC.mk' (by simp only [Tryz.f206, go_sem]; rfl)
noncomputable def fun206 : Fun := ⟨[0, 1, 2], [1], [], 1, s206.1, [.tmp 2], 325⟩
theorem ok206 : FnM Tryz.prog 206 fun206 := SC.okM s206 rfl (fn := Tryz.f206) (by kernel_rfl) (by kernel_rfl)
noncomputable def s227 : SC (Tryz.f227.body.getD .skip) := SC.mk' (by simp only [Tryz.f227, go_sem]; rfl)
noncomputable def fun227 : Fun := ⟨[0, 1, 2, 6], [], [], 3, s227.1, [.tmp 6], 0⟩
theorem ok227 : FnM Tryz.prog 227 fun227 := SC.okM s227 rfl (fn := Tryz.f227) (by kernel_rfl) (by kernel_rfl)
noncomputable def s270 : SC (Tryz.f270.body.getD .skip) := SC.mk' (by simp only [Tryz.f270, go_sem]; rfl)
noncomputable def fun270 : Fun := ⟨[0, 1, 2, 4, 14, 5], [2, 4], [], 2, s270.1, [.cell 4 true 4, .tmp 5], 0⟩
theorem ok270 : FnM Tryz.prog 270 fun270 := SC.okM s270 rfl (fn := Tryz.f270) (by kernel_rfl) (by kernel_rfl)
noncomputable def s271 : SC (Tryz.f271.body.getD .skip) := SC.mk' (by simp only [Tryz.f271, go_sem]; rfl)
noncomputable def fun271 : Fun := ⟨[0, 2], [], [], 1, s271.1, [.tmp 2], 0⟩
theorem ok271 : FnM Tryz.prog 271 fun271 := SC.okM s271 rfl (fn := Tryz.f271) (by kernel_rfl) (by kernel_rfl)
noncomputable def s276 : SC (Tryz.f276.body.getD .skip) := SC.mk' (by simp only [Tryz.f276, go_sem]; rfl)
noncomputable def fun276 : Fun := ⟨[0, 1, 2, 4, 9, 5], [2, 4], [], 2, s276.1, [.cell 4 true 8, .tmp 5], 65⟩
theorem ok276 : FnM Tryz.prog 276 fun276 := SC.okM s276 rfl (fn := Tryz.f276) (by kernel_rfl) (by kernel_rfl)
noncomputable def s281 : SC (Tryz.f281.body.getD .skip) := SC.mk' (by simp only [Tryz.f281, go_sem]; rfl)
noncomputable def fun281 : Fun := ⟨[0, 1, 2, 3, 4, 6, 7, 11, 15, 20, 30, 58, 5], [3, 4], [46], 2, s281.1, [.cell 4 true 3, .tmp 5], 325⟩
theorem ok281 : FnM Tryz.prog 281 fun281 := SC.okM s281 rfl (fn := Tryz.f281) (by kernel_rfl) (by kernel_rfl)
noncomputable def s285 : SC (Tryz.f285.body.getD .skip) := SC.mk' (by simp only [Tryz.f285, go_sem]; rfl)
noncomputable def fun285 : Fun := ⟨[0, 1, 2, 6, 8, 9, 16, 22, 7], [6, 8], [], 3, s285.1, [.cell 6 true 8, .tmp 7], 65⟩
theorem ok285 : FnM Tryz.prog 285 fun285 := SC.okM s285 rfl (fn := Tryz.f285) (by kernel_rfl) (by kernel_rfl)
noncomputable def s289 : SC (Tryz.f289.body.getD .skip) := SC.mk' (by simp only [Tryz.f289, go_sem]; rfl)
noncomputable def fun289 : Fun := ⟨[0, 1, 2, 3], [2], [], 2, s289.1, [.tmp 3], 130⟩
theorem ok289 : FnM Tryz.prog 289 fun289 := SC.okM s289 rfl (fn := Tryz.f289) (by kernel_rfl) (by kernel_rfl)
noncomputable def s293 : SC (Tryz.f293.body.getD .skip) := SC.mk' (by simp only [Tryz.f293, go_sem]; rfl)
noncomputable def fun293 : Fun := ⟨[0, 1, 3, 8, 4, 61, 5, 6, 59, 9, 40, 45, 56, 60, 62, 68, 81, 2], [1, 8], [], 1, s293.1, [.tmp 2], 130⟩
theorem ok293 : FnM Tryz.prog 293 fun293 := SC.okM s293 rfl (fn := Tryz.f293) (by kernel_rfl) (by kernel_rfl)
noncomputable def s307 : SC (Tryz.f307.body.getD .skip) := SC.mk' (by simp only [Tryz.f307, go_sem]; rfl)
noncomputable def fun307 : Fun := ⟨[0, 1, 2, 3, 8, 4, 5, 10, 20, 25, 30, 46, 11, 12, 9], [4, 5, 8], [], 4, s307.1, [.cell 8 true 4, .tmp 9], 585⟩
theorem ok307 : FnM Tryz.prog 307 fun307 := SC.okM s307 rfl (fn := Tryz.f307) (by kernel_rfl) (by kernel_rfl)
noncomputable def s309 : SC (Tryz.f309.body.getD .skip) := SC.mk' (by simp only [Tryz.f309, go_sem]; rfl)
noncomputable def fun309 : Fun := ⟨[0, 1, 38, 42, 2], [1], [], 1, s309.1, [.tmp 2], 65⟩
theorem ok309 : FnM Tryz.prog 309 fun309 := SC.okM s309 rfl (fn := Tryz.f309) (by kernel_rfl) (by kernel_rfl)
noncomputable def s322 : SC (Tryz.f322.body.getD .skip) := SC.mk' (by simp only [Tryz.f322, go_sem]; rfl)
noncomputable def fun322 : Fun := ⟨[0, 13, 1, 3, 11, 5, 12, 14, 2], [1, 5], [], 1, s322.1, [.tmp 2], 260⟩
theorem ok322 : FnM Tryz.prog 322 fun322 := SC.okM s322 rfl (fn := Tryz.f322) (by kernel_rfl) (by kernel_rfl)
noncomputable def s337 : SC (Tryz.f337.body.getD .skip) := SC.mk' (by simp only [Tryz.f337, go_sem]; rfl)
noncomputable def fun337 : Fun := ⟨[0, 1, 2, 4], [2], [], 2, s337.1, [.tmp 4], 0⟩
theorem ok337 : FnM Tryz.prog 337 fun337 := SC.okM s337 rfl (fn := Tryz.f337) (by kernel_rfl) (by kernel_rfl)
noncomputable def s367 : SC (Tryz.f367.body.getD .skip) := SC.mk' (by simp only [Tryz.f367, go_sem]; rfl)
noncomputable def fun367 : Fun := ⟨[0, 1, 2, 3, 24, 9, 45, 6, 7, 22, 43, 11, 19, 23, 25, 37, 44, 46, 53], [3, 9, 11], [], 3, s367.1, [.tmp 6, .tmp 7], 585⟩
theorem ok367 : FnM Tryz.prog 367 fun367 := SC.okM s367 rfl (fn := Tryz.f367) (by kernel_rfl) (by kernel_rfl)
noncomputable def s395 : SC (Tryz.f395.body.getD .skip) := SC.mk' (by simp only [Tryz.f395, go_sem]; rfl)
noncomputable def fun395 : Fun := ⟨[0, 1, 2], [1, 2], [], 1, s395.1, [.cell 2 true 3], 65⟩
theorem ok395 : FnM Tryz.prog 395 fun395 := SC.okM s395 rfl (fn := Tryz.f395) (by kernel_rfl) (by kernel_rfl)
noncomputable def s404 : SC (Tryz.f404.body.getD .skip) := SC.mk' (by simp only [Tryz.f404, go_sem]; rfl)
noncomputable def fun404 : Fun := ⟨[0, 1, 2, 4, 7, 12, 17, 3], [1, 2], [], 1, s404.1, [.cell 2 true 7, .tmp 3], 130⟩
theorem ok404 : FnM Tryz.prog 404 fun404 := SC.okM s404 rfl (fn := Tryz.f404) (by kernel_rfl) (by kernel_rfl)
noncomputable def s427 : SC (Tryz.f427.body.getD .skip) := SC.mk' (by simp only [Tryz.f427, go_sem]; rfl)
noncomputable def fun427 : Fun := ⟨[0, 1, 2], [1], [], 1, s427.1, [.tmp 2], 0⟩
theorem ok427 : FnM Tryz.prog 427 fun427 := SC.okM s427 rfl (fn := Tryz.f427) (by kernel_rfl) (by kernel_rfl)
noncomputable def s438 : SC (Tryz.f438.body.getD .skip) := SC.mk' (by simp only [Tryz.f438, go_sem]; rfl)
noncomputable def fun438 : Fun := ⟨[0, 1, 2], [1], [], 1, s438.1, [.tmp 2], 65⟩
theorem ok438 : FnM Tryz.prog 438 fun438 := SC.okM s438 rfl (fn := Tryz.f438) (by kernel_rfl) (by kernel_rfl)
noncomputable def s439 : SC (Tryz.f439.body.getD .skip) := SC.mk' (by simp only [Tryz.f439, go_sem]; rfl)
noncomputable def fun439 : Fun := ⟨[0, 1, 2, 6], [], [], 3, s439.1, [.tmp 6], 195⟩
theorem ok439 : FnM Tryz.prog 439 fun439 := SC.okM s439 rfl (fn := Tryz.f439) (by kernel_rfl) (by kernel_rfl)
end Go.M
