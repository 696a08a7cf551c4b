/-
  The codes of functions, as the machine takes them.
  No condition: definitions and lemmas.
-/
import Derived.Test.YtgnhijkjlebcmaaGreatQtyM
set_option linter.all false
set_option maxRecDepth 100000
set_option maxHeartbeats 4000000
namespace Go.M
open Go Go.Proofs
open Go.Eng (SOp SOper SCode sizeP aggP zerosOf bytesP zeroVal stripCode stripOps stripOper strip stripParts kindsOf kinds2)
noncomputable def s4 : SC (Tryz.f4.body.getD .skip) := SC.mk' (by simp only [Tryz.f4, go_sem]; rfl)
noncomputable def fun4 : Fun := ⟨[0, 5, 9, 17, 11, 4, 16, 8, 12, 19, 3, 7, 10, 13, 20, 21, 35, 53, 77, 82, 15, 126, 143, 148, 169, 23, 182, 195, 2], [4, 5, 9, 12, 17, 20, 21], [], 1, s4.1, [.tmp 2], 1495⟩
theorem ok4 : FnM Tryz.prog 4 fun4 := SC.okM s4 rfl (fn := Tryz.f4) (by kernel_rfl) (by kernel_rfl)
noncomputable def s14 : SC (Tryz.f14.body.getD .skip) := SC.mk' (by simp only [Tryz.f14, go_sem]; rfl)
noncomputable def fun14 : Fun := ⟨[0, 1, 2, 3, 8, 6, 5, 11, 12, 22, 30, 37, 9], [5, 6, 8, 10], [], 4, s14.1, [.cell 8 true 63, .tmp 9], 195⟩
theorem ok14 : FnM Tryz.prog 14 fun14 := SC.okM s14 rfl (fn := Tryz.f14) (by kernel_rfl) (by kernel_rfl)
noncomputable def s29 : SC (Tryz.f29.body.getD .skip) := SC.mk' (by simp only [Tryz.f29, go_sem]; rfl)
noncomputable def fun29 : Fun := ⟨[0, 1, 5, 7, 2, 4, 15], [2, 4, 5], [], 2, s29.1, [.cell 4 true 11], 1170⟩
theorem ok29 : FnM Tryz.prog 29 fun29 := SC.okM s29 rfl (fn := Tryz.f29) (by kernel_rfl) (by kernel_rfl)
noncomputable def s37 : SC (Tryz.f37.body.getD .skip) := SC.mk' (by simp only [Tryz.f37, go_sem]; rfl)
noncomputable def fun37 : Fun := ⟨[0, 1, 5, 2, 10, 20, 4], [2], [], 2, s37.1, [.tmp 4], 0⟩
theorem ok37 : FnM Tryz.prog 37 fun37 := SC.okM s37 rfl (fn := Tryz.f37) (by kernel_rfl) (by kernel_rfl)
noncomputable def s47 : SC (Tryz.f47.body.getD .skip) := SC.mk' (by simp only [Tryz.f47, go_sem]; rfl)
noncomputable def fun47 : Fun := ⟨[0, 1, 4, 5, 6, 2, 7, 8, 21, 49, 58, 3], [1, 2, 4, 5, 6, 7], [], 1, s47.1, [.cell 2 true 63, .tmp 3], 780⟩
theorem ok47 : FnM Tryz.prog 47 fun47 := SC.okM s47 rfl (fn := Tryz.f47) (by kernel_rfl) (by kernel_rfl)
noncomputable def s129 : SC (Tryz.f129.body.getD .skip) := SC.mk' (by simp only [Tryz.f129, go_sem]; rfl)
noncomputable def fun129 : Fun := ⟨[0, 4, 2, 12, 17, 47, 3], [2], [], 1, s129.1, [.cell 2 true 5, .tmp 3], 0⟩
theorem ok129 : FnM Tryz.prog 129 fun129 := SC.okM s129 rfl (fn := Tryz.f129) (by kernel_rfl) (by kernel_rfl)
noncomputable def s131 : SC (Tryz.f131.body.getD .skip) := SC.mk' (by simp only [Tryz.f131, go_sem]; rfl)
noncomputable def fun131 : Fun := ⟨[0, 1, 3, 2, 4, 6, 7, 12, 26, 32, 52, 56, 69, 73, 80, 9, 5], [2, 3, 4, 8], [], 2, s131.1, [.cell 4 true 26, .tmp 5], 195⟩
theorem ok131 : FnM Tryz.prog 131 fun131 := SC.okM s131 rfl (fn := Tryz.f131) (by kernel_rfl) (by kernel_rfl)
noncomputable def s159 : SC (Tryz.f159.body.getD .skip) := SC.mk' (by simp only [Tryz.f159, go_sem]; rfl)
noncomputable def fun159 : Fun := ⟨[0, 1, 2, 3, 4, 8, 18, 35, 11, 45, 48, 9, 10], [4, 8], [], 4, s159.1, [.cell 8 true 11, .tmp 9, .tmp 10], 65⟩
theorem ok159 : FnM Tryz.prog 159 fun159 := SC.okM s159 rfl (fn := Tryz.f159) (by kernel_rfl) (by kernel_rfl)
noncomputable def s179 : SC (Tryz.f179.body.getD .skip) := SC.mk' (by simp only [Tryz.f179, go_sem]; rfl)
noncomputable def fun179 : Fun := ⟨[0, 4, 2], [], [], 1, s179.1, [.tmp 2], 0⟩
theorem ok179 : FnM Tryz.prog 179 fun179 := SC.okM s179 rfl (fn := Tryz.f179) (by kernel_rfl) (by kernel_rfl)
noncomputable def s194 : SC (Tryz.f194.body.getD .skip) := SC.mk' (by simp only [Tryz.f194, go_sem]; rfl)
noncomputable def fun194 : Fun := ⟨[0, 1, 2, 4, 6, 7, 15, 3, 9, 11, 56, 12, 13, 16, 10, 32, 36, 47, 49, 73, 90, 94, 101, 109, 8], [3, 4, 6, 7, 9, 12], [], 3, s194.1, [.cell 6 true 11, .cell 7 true 5, .tmp 8], 130⟩
theorem ok194 : FnM Tryz.prog 194 fun194 := SC.okM s194 rfl (fn := Tryz.f194) (by kernel_rfl) (by kernel_rfl)
noncomputable def s204 : SC (Tryz.f204.body.getD .skip) := SC.mk' (by simp only [Tryz.f204, go_sem]; rfl)
noncomputable def fun204 : Fun := ⟨[0, 1, 3, 5, 8, 4, 6, 7, 39, 44, 58, 64, 73, 78, 89, 2], [1], [], 1, s204.1, [.tmp 2], 130⟩
theorem ok204 : FnM Tryz.prog 204 fun204 := SC.okM s204 rfl (fn := Tryz.f204) (by kernel_rfl) (by kernel_rfl)
noncomputable def s218 : SC (Tryz.f218.body.getD .skip) := SC.mk' (by simp only [Tryz.f218, go_sem]; rfl)
noncomputable def fun218 : Fun := ⟨[0, 2, 9, 3], [2], [], 1, s218.1, [.cell 2 true 3, .tmp 3], 0⟩
theorem ok218 : FnM Tryz.prog 218 fun218 := SC.okM s218 rfl (fn := Tryz.f218) (by kernel_rfl) (by kernel_rfl)
noncomputable def s226 : SC (Tryz.f226.body.getD .skip) := SC.mk' (by simp only [Tryz.f226, go_sem]; rfl)
noncomputable def fun226 : Fun := ⟨[0, 1, 11, 4, 41, 7, 9, 48, 10, 12, 3, 5, 36, 40, 42, 6, 47, 49, 51, 59, 2], [1], [], 1, s226.1, [.tmp 2], 195⟩
theorem ok226 : FnM Tryz.prog 226 fun226 := SC.okM s226 rfl (fn := Tryz.f226) (by kernel_rfl) (by kernel_rfl)
noncomputable def s239 : SC (Tryz.f239.body.getD .skip) := SC.mk' (by simp only [Tryz.f239, go_sem]; rfl)
noncomputable def fun239 : Fun := ⟨[0, 1, 2, 25, 33, 6], [], [], 3, s239.1, [.tmp 6], 0⟩
theorem ok239 : FnM Tryz.prog 239 fun239 := SC.okM s239 rfl (fn := Tryz.f239) (by kernel_rfl) (by kernel_rfl)
noncomputable def s272 : SC (Tryz.f272.body.getD .skip) := SC.mk' (by simp only [Tryz.f272, go_sem]; rfl)
noncomputable def fun272 : Fun := ⟨[0, 1, 2, 4, 10, 16, 3], [1, 2], [], 1, s272.1, [.cell 2 true 4, .tmp 3], 65⟩
theorem ok272 : FnM Tryz.prog 272 fun272 := SC.okM s272 rfl (fn := Tryz.f272) (by kernel_rfl) (by kernel_rfl)
noncomputable def s273 : SC (Tryz.f273.body.getD .skip) := SC.mk' (by simp only [Tryz.f273, go_sem]; rfl)
noncomputable def fun273 : Fun := ⟨[0, 1, 2, 3, 4, 7, 8, 30, 10, 18, 29, 31, 12, 35, 42, 9], [4, 7, 8], [], 4, s273.1, [.cell 8 true 11, .tmp 9], 195⟩
theorem ok273 : FnM Tryz.prog 273 fun273 := SC.okM s273 rfl (fn := Tryz.f273) (by kernel_rfl) (by kernel_rfl)
noncomputable def s276 : SC (Tryz.f276.body.getD .skip) := SC.mk' (by simp only [Tryz.f276, go_sem]; rfl)
noncomputable def fun276 : Fun := ⟨[0, 1, 2, 4, 9, 5], [2, 4], [], 2, s276.1, [.cell 4 true 8, .tmp 5], 65⟩
theorem ok276 : FnM Tryz.prog 276 fun276 := SC.okM s276 rfl (fn := Tryz.f276) (by kernel_rfl) (by kernel_rfl)
noncomputable def s293 : SC (Tryz.f293.body.getD .skip) := SC.mk' (by simp only [Tryz.f293, go_sem]; rfl)
noncomputable def fun293 : Fun := ⟨[0, 1, 3, 8, 4, 61, 5, 6, 59, 9, 40, 45, 56, 60, 62, 68, 81, 2], [1, 8], [], 1, s293.1, [.tmp 2], 130⟩
theorem ok293 : FnM Tryz.prog 293 fun293 := SC.okM s293 rfl (fn := Tryz.f293) (by kernel_rfl) (by kernel_rfl)
noncomputable def s295 : SC (Tryz.f295.body.getD .skip) := SC.mk' (by simp only [Tryz.f295, go_sem]; rfl)
noncomputable def fun295 : Fun := ⟨[0, 1, 2, 6, 3], [1, 2], [], 1, s295.1, [.cell 2 true 5, .tmp 3], 0⟩
theorem ok295 : FnM Tryz.prog 295 fun295 := SC.okM s295 rfl (fn := Tryz.f295) (by kernel_rfl) (by kernel_rfl)
noncomputable def s317 : SC (Tryz.f317.body.getD .skip) := SC.mk' (by simp only [Tryz.f317, go_sem]; rfl)
noncomputable def fun317 : Fun := ⟨[0, 1, 2], [1], [], 1, s317.1, [.tmp 2], 0⟩
theorem ok317 : FnM Tryz.prog 317 fun317 := SC.okM s317 rfl (fn := Tryz.f317) (by kernel_rfl) (by kernel_rfl)
noncomputable def s320 : SC (Tryz.f320.body.getD .skip) := SC.mk' (by simp only [Tryz.f320, go_sem]; rfl)
noncomputable def fun320 : Fun := ⟨[0, 1, 2], [1], [], 1, s320.1, [.tmp 2], 65⟩
theorem ok320 : FnM Tryz.prog 320 fun320 := SC.okM s320 rfl (fn := Tryz.f320) (by kernel_rfl) (by kernel_rfl)
noncomputable def s321 : SC (Tryz.f321.body.getD .skip) := SC.mk' (by simp only [Tryz.f321, go_sem]; rfl)
noncomputable def fun321 : Fun := ⟨[0, 1, 4], [], [], 2, s321.1, [.tmp 4], 841⟩
theorem ok321 : FnM Tryz.prog 321 fun321 := SC.okM s321 rfl (fn := Tryz.f321) (by kernel_rfl) (by kernel_rfl)
noncomputable def s331 : SC (Tryz.f331.body.getD .skip) := SC.mk' (by simp only [Tryz.f331, go_sem]; rfl)
noncomputable def fun331 : Fun := ⟨[0, 1, 5, 2, 9, 12, 4], [2], [], 2, s331.1, [.tmp 4], 520⟩
theorem ok331 : FnM Tryz.prog 331 fun331 := SC.okM s331 rfl (fn := Tryz.f331) (by kernel_rfl) (by kernel_rfl)
noncomputable def s353 : SC (Tryz.f353.body.getD .skip) := SC.mk' (by simp only [Tryz.f353, go_sem]; rfl)
noncomputable def fun353 : Fun := ⟨[0, 1, 5, 6, 7, 12, 19, 29, 4], [], [], 2, s353.1, [.tmp 4], 455⟩
theorem ok353 : FnM Tryz.prog 353 fun353 := SC.okM s353 rfl (fn := Tryz.f353) (by kernel_rfl) (by kernel_rfl)
noncomputable def s356 : SC (Tryz.f356.body.getD .skip) := SC.mk' (by simp only [Tryz.f356, go_sem]; rfl)
noncomputable def fun356 : Fun := ⟨[0, 1, 2, 3, 7, 17, 6], [3], [], 3, s356.1, [.tmp 6], 130⟩
theorem ok356 : FnM Tryz.prog 356 fun356 := SC.okM s356 rfl (fn := Tryz.f356) (by kernel_rfl) (by kernel_rfl)
noncomputable def s371 : SC (Tryz.f371.body.getD .skip) := SC.mk' (by simp only [Tryz.f371, go_sem]; rfl)
noncomputable def fun371 : Fun := ⟨[0, 1, 8, 5, 7, 9, 16, 4], [], [], 2, s371.1, [.tmp 4], 776⟩
theorem ok371 : FnM Tryz.prog 371 fun371 := SC.okM s371 rfl (fn := Tryz.f371) (by kernel_rfl) (by kernel_rfl)
noncomputable def s382 : SC (Tryz.f382.body.getD .skip) := SC.mk' (by simp only [Tryz.f382, go_sem]; rfl)
noncomputable def fun382 : Fun := ⟨[0, 1, 2, 3, 4], [2, 3], [], 2, s382.1, [.tmp 4], 0⟩
theorem ok382 : FnM Tryz.prog 382 fun382 := SC.okM s382 rfl (fn := Tryz.f382) (by kernel_rfl) (by kernel_rfl)
noncomputable def s387 : SC (Tryz.f387.body.getD .skip) := SC.mk' (by simp only [Tryz.f387, go_sem]; rfl)
noncomputable def fun387 : Fun := ⟨[0, 4, 2], [], [], 1, s387.1, [.tmp 2], 0⟩
theorem ok387 : FnM Tryz.prog 387 fun387 := SC.okM s387 rfl (fn := Tryz.f387) (by kernel_rfl) (by kernel_rfl)
noncomputable def s397 : SC (Tryz.f397.body.getD .skip) := SC.mk' (by simp only [Tryz.f397, go_sem]; rfl)
noncomputable def fun397 : Fun := ⟨[0, 2], [], [], 1, s397.1, [.tmp 2], 0⟩
theorem ok397 : FnM Tryz.prog 397 fun397 := SC.okM s397 rfl (fn := Tryz.f397) (by kernel_rfl) (by kernel_rfl)
noncomputable def s416 : SC (Tryz.f416.body.getD .skip) := SC.mk' (by simp only [Tryz.f416, go_sem]; rfl)
noncomputable def fun416 : Fun := ⟨[0, 1, 15, 4, 13, 11, 14, 16, 28, 2], [1, 4], [], 1, s416.1, [.tmp 2], 130⟩
theorem ok416 : FnM Tryz.prog 416 fun416 := SC.okM s416 rfl (fn := Tryz.f416) (by kernel_rfl) (by kernel_rfl)
noncomputable def s425 : SC (Tryz.f425.body.getD .skip) := SC.mk' (by simp only [Tryz.f425, go_sem]; rfl)
noncomputable def fun425 : Fun := ⟨[0, 1, 3, 4], [], [], 2, s425.1, [.tmp 4], 195⟩
theorem ok425 : FnM Tryz.prog 425 fun425 := SC.okM s425 rfl (fn := Tryz.f425) (by kernel_rfl) (by kernel_rfl)
noncomputable def s434 : SC (Tryz.f434.body.getD .skip) := SC.mk' (by simp only [Tryz.f434, go_sem]; rfl)
noncomputable def fun434 : Fun := ⟨[0, 1, 2, 3, 6, 11], [3, 6], [], 3, s434.1, [.cell 6 true 11], 65⟩
theorem ok434 : FnM Tryz.prog 434 fun434 := SC.okM s434 rfl (fn := Tryz.f434) (by kernel_rfl) (by kernel_rfl)
noncomputable def s439 : SC (Tryz.f439.body.getD .skip) := SC.mk' (by simp only [Tryz.f439, go_sem]; rfl)
noncomputable def fun439 : Fun := ⟨[0, 1, 2, 6], [], [], 3, s439.1, [.tmp 6], 195⟩
theorem ok439 : FnM Tryz.prog 439 fun439 := SC.okM s439 rfl (fn := Tryz.f439) (by kernel_rfl) (by kernel_rfl)
noncomputable def s447 : SC (Tryz.f447.body.getD .skip) := SC.mk' (by simp only [Tryz.f447, go_sem]; rfl)
noncomputable def fun447 : Fun := ⟨[0, 1, 2, 3], [2], [], 2, s447.1, [.tmp 3], 0⟩
theorem ok447 : FnM Tryz.prog 447 fun447 := SC.okM s447 rfl (fn := Tryz.f447) (by kernel_rfl) (by kernel_rfl)
end Go.M
