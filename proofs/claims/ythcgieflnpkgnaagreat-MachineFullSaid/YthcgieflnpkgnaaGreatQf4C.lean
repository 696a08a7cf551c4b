/-
  The codes of functions, as the machine takes them.
  No condition: definitions and lemmas.
-/
import Derived.Test.YthcgieflnpkgnaaGreatQtyC
set_option linter.all false
set_option maxRecDepth 100000
set_option maxHeartbeats 4000000
namespace Go.M
open Go Go.Proofs
open Go.Eng (SOp SOper SCode sizeP aggP zerosOf bytesP zeroVal stripCode stripOps stripOper strip stripParts kindsOf)

noncomputable def s23 : SC (Tryz.f23.body.getD .skip) := SC.mk' (by simp only [Tryz.f23, go_sem]; rfl)
noncomputable def fun23 : Fun := ⟨[0, 1, 2, 4, 7, 8, 3, 18, 34, 5, 6], [2, 3, 4, 7], [], 2, s23.1, [.cell 4 true 23, .tmp 5, .tmp 6], 8⟩
theorem ok23 : FnM Tryz.prog 23 fun23 := SC.okM s23 rfl (fn := Tryz.f23) (by kernel_rfl) (by kernel_rfl)
noncomputable def s32 : SC (Tryz.f32.body.getD .skip) := SC.mk' (by simp only [Tryz.f32, go_sem]; rfl)
noncomputable def fun32 : Fun := ⟨[0, 1, 2, 4, 3, 26, 6, 7, 10, 11, 13, 17, 12, 27, 37, 46, 54, 66, 8, 9], [3, 4, 6, 7], [], 3, s32.1, [.cell 6 true 11, .cell 7 true 63, .tmp 8, .tmp 9], 16⟩
theorem ok32 : FnM Tryz.prog 32 fun32 := SC.okM s32 rfl (fn := Tryz.f32) (by kernel_rfl) (by kernel_rfl)
noncomputable def s47 : SC (Tryz.f47.body.getD .skip) := SC.mk' (by simp only [Tryz.f47, go_sem]; rfl)
noncomputable def fun47 : Fun := ⟨[0, 1, 4, 85, 6, 8, 2, 57, 84, 86, 5, 9, 101, 3], [1, 2, 4, 6, 8], [], 1, s47.1, [.cell 2 true 11, .tmp 3], 6⟩
theorem ok47 : FnM Tryz.prog 47 fun47 := SC.okM s47 rfl (fn := Tryz.f47) (by kernel_rfl) (by kernel_rfl)
noncomputable def s49 : SC (Tryz.f49.body.getD .skip) := SC.mk' (by simp only [Tryz.f49, go_sem]; rfl)
noncomputable def fun49 : Fun := ⟨[0, 1, 2, 3, 8, 6, 5, 11, 12, 19, 27, 34, 9], [5, 6, 8, 10], [], 4, s49.1, [.cell 8 true 63, .tmp 9], 7⟩
theorem ok49 : FnM Tryz.prog 49 fun49 := SC.okM s49 rfl (fn := Tryz.f49) (by kernel_rfl) (by kernel_rfl)
noncomputable def s53 : SC (Tryz.f53.body.getD .skip) := SC.mk' (by simp only [Tryz.f53, go_sem]; rfl)
noncomputable def fun53 : Fun := ⟨[0, 1, 8, 5, 7, 9, 16, 4], [], [], 2, s53.1, [.tmp 4], 0⟩
theorem ok53 : FnM Tryz.prog 53 fun53 := SC.okM s53 rfl (fn := Tryz.f53) (by kernel_rfl) (by kernel_rfl)
noncomputable def s61 : SC (Tryz.f61.body.getD .skip) := SC.mk' (by simp only [Tryz.f61, go_sem]; rfl)
noncomputable def fun61 : Fun := ⟨[0, 1, 3, 2, 4, 6, 5], [2, 3, 4], [], 2, s61.1, [.cell 4 true 63, .tmp 5], 6⟩
theorem ok61 : FnM Tryz.prog 61 fun61 := SC.okM s61 rfl (fn := Tryz.f61) (by kernel_rfl) (by kernel_rfl)
noncomputable def s87 : SC (Tryz.f87.body.getD .skip) := SC.mk' (by simp only [Tryz.f87, go_sem]; rfl)
noncomputable def fun87 : Fun := ⟨[0, 2, 9, 3], [2], [], 1, s87.1, [.cell 2 true 2, .tmp 3], 0⟩
theorem ok87 : FnM Tryz.prog 87 fun87 := SC.okM s87 rfl (fn := Tryz.f87) (by kernel_rfl) (by kernel_rfl)
noncomputable def s89 : SC (Tryz.f89.body.getD .skip) := SC.mk' (by simp only [Tryz.f89, go_sem]; rfl)
noncomputable def fun89 : Fun := ⟨[0, 1, 2, 4, 6, 9, 16, 5], [2, 4], [], 2, s89.1, [.cell 4 true 3, .tmp 5], 5⟩
theorem ok89 : FnM Tryz.prog 89 fun89 := SC.okM s89 rfl (fn := Tryz.f89) (by kernel_rfl) (by kernel_rfl)
noncomputable def s94 : SC (Tryz.f94.body.getD .skip) := SC.mk' (by simp only [Tryz.f94, go_sem]; rfl)
noncomputable def fun94 : Fun := ⟨[0, 1, 2, 4, 11, 6, 7, 18, 16, 3, 13, 17, 19, 35, 8, 9], [3, 4, 6, 7, 11], [], 3, s94.1, [.cell 6 true 11, .cell 7 true 63, .tmp 8, .tmp 9], 17⟩
theorem ok94 : FnM Tryz.prog 94 fun94 := SC.okM s94 rfl (fn := Tryz.f94) (by kernel_rfl) (by kernel_rfl)
noncomputable def s96 : SC (Tryz.f96.body.getD .skip) := SC.mk' (by simp only [Tryz.f96, go_sem]; rfl)
noncomputable def fun96 : Fun := ⟨[0, 2], [], [], 1, s96.1, [.tmp 2], 0⟩
theorem ok96 : FnM Tryz.prog 96 fun96 := SC.okM s96 rfl (fn := Tryz.f96) (by kernel_rfl) (by kernel_rfl)
noncomputable def s101 : SC (Tryz.f101.body.getD .skip) := SC.mk' (by simp only [Tryz.f101, go_sem]; rfl)
noncomputable def fun101 : Fun := ⟨[0, 2, 9, 3], [2], [], 1, s101.1, [.cell 2 true 2, .tmp 3], 0⟩
theorem ok101 : FnM Tryz.prog 101 fun101 := SC.okM s101 rfl (fn := Tryz.f101) (by kernel_rfl) (by kernel_rfl)
noncomputable def s103 : SC (Tryz.f103.body.getD .skip) := SC.mk' (by simp only [Tryz.f103, go_sem]; rfl)
noncomputable def fun103 : Fun := ⟨[0, 1, 4, 6, 7, 14, 22, 5], [4, 6], [], 2, s103.1, [.cell 4 true 26, .tmp 5], 2⟩
theorem ok103 : FnM Tryz.prog 103 fun103 := SC.okM s103 rfl (fn := Tryz.f103) (by kernel_rfl) (by kernel_rfl)
noncomputable def s129 : SC (Tryz.f129.body.getD .skip) := SC.mk' (by simp only [Tryz.f129, go_sem]; rfl)
noncomputable def fun129 : Fun := ⟨[0, 2], [], [], 1, s129.1, [.tmp 2], 0⟩
theorem ok129 : FnM Tryz.prog 129 fun129 := SC.okM s129 rfl (fn := Tryz.f129) (by kernel_rfl) (by kernel_rfl)
noncomputable def s131 : SC (Tryz.f131.body.getD .skip) := SC.mk' (by simp only [Tryz.f131, go_sem]; rfl)
noncomputable def fun131 : Fun := ⟨[0], [], [], 0, s131.1, [.tmp 0], 0⟩
theorem ok131 : FnM Tryz.prog 131 fun131 := SC.okM s131 rfl (fn := Tryz.f131) (by kernel_rfl) (by kernel_rfl)
noncomputable def s132 : SC (Tryz.f132.body.getD .skip) := SC.mk' (by simp only [Tryz.f132, go_sem]; rfl)
noncomputable def fun132 : Fun := ⟨[0, 2], [], [], 1, s132.1, [.tmp 2], 0⟩
theorem ok132 : FnM Tryz.prog 132 fun132 := SC.okM s132 rfl (fn := Tryz.f132) (by kernel_rfl) (by kernel_rfl)
noncomputable def s137 : SC (Tryz.f137.body.getD .skip) := SC.mk' (by simp only [Tryz.f137, go_sem]; rfl)
noncomputable def fun137 : Fun := ⟨[0, 2], [], [], 1, s137.1, [.tmp 2], 1⟩
theorem ok137 : FnM Tryz.prog 137 fun137 := SC.okM s137 rfl (fn := Tryz.f137) (by kernel_rfl) (by kernel_rfl)
noncomputable def s140 : SC (Tryz.f140.body.getD .skip) := SC.mk' (by simp only [Tryz.f140, go_sem]; rfl)
noncomputable def fun140 : Fun := ⟨[0, 3, 4, 5, 35, 2], [], [], 1, s140.1, [.tmp 2], 12⟩
theorem ok140 : FnM Tryz.prog 140 fun140 := SC.okM s140 rfl (fn := Tryz.f140) (by kernel_rfl) (by kernel_rfl)
noncomputable def s141 : SC (Tryz.f141.body.getD .skip) := SC.mk' (by simp only [Tryz.f141, go_sem]; rfl)
noncomputable def fun141 : Fun := ⟨[0, 1, 5, 2], [1], [], 1, s141.1, [.tmp 2], 7⟩
theorem ok141 : FnM Tryz.prog 141 fun141 := SC.okM s141 rfl (fn := Tryz.f141) (by kernel_rfl) (by kernel_rfl)
noncomputable def s147 : SC (Tryz.f147.body.getD .skip) := SC.mk' (by simp only [Tryz.f147, go_sem]; rfl)
noncomputable def fun147 : Fun := ⟨[0, 1, 2, 8, 3], [1, 2], [], 1, s147.1, [.cell 2 true 26, .tmp 3], 2⟩
theorem ok147 : FnM Tryz.prog 147 fun147 := SC.okM s147 rfl (fn := Tryz.f147) (by kernel_rfl) (by kernel_rfl)
noncomputable def s169 : SC (Tryz.f169.body.getD .skip) := SC.mk' (by simp only [Tryz.f169, go_sem]; rfl)
noncomputable def fun169 : Fun := ⟨[0, 1, 2, 3], [2], [], 2, s169.1, [.tmp 3], 0⟩
theorem ok169 : FnM Tryz.prog 169 fun169 := SC.okM s169 rfl (fn := Tryz.f169) (by kernel_rfl) (by kernel_rfl)
noncomputable def s170 : SC (Tryz.f170.body.getD .skip) := SC.mk' (by simp only [Tryz.f170, go_sem]; rfl)
noncomputable def fun170 : Fun := ⟨[0, 1, 11, 4, 41, 7, 9, 48, 10, 12, 3, 5, 36, 40, 42, 6, 47, 49, 51, 59, 2], [1], [], 1, s170.1, [.tmp 2], 3⟩
theorem ok170 : FnM Tryz.prog 170 fun170 := SC.okM s170 rfl (fn := Tryz.f170) (by kernel_rfl) (by kernel_rfl)
noncomputable def s172 : SC (Tryz.f172.body.getD .skip) := SC.mk' (by simp only [Tryz.f172, go_sem]; rfl)
noncomputable def fun172 : Fun := ⟨[0, 1, 2, 6], [], [], 3, s172.1, [.tmp 6], 0⟩
theorem ok172 : FnM Tryz.prog 172 fun172 := SC.okM s172 rfl (fn := Tryz.f172) (by kernel_rfl) (by kernel_rfl)
noncomputable def s179 : SC (Tryz.f179.body.getD .skip) := SC.mk' (by simp only [Tryz.f179, go_sem]; rfl)
noncomputable def fun179 : Fun := ⟨[0, 1, 2, 3], [2], [], 2, s179.1, [.tmp 3], 0⟩
theorem ok179 : FnM Tryz.prog 179 fun179 := SC.okM s179 rfl (fn := Tryz.f179) (by kernel_rfl) (by kernel_rfl)
noncomputable def s193 : SC (Tryz.f193.body.getD .skip) := SC.mk' (by simp only [Tryz.f193, go_sem]; rfl)
noncomputable def fun193 : Fun := ⟨[0, 4, 2], [], [], 1, s193.1, [.tmp 2], 0⟩
theorem ok193 : FnM Tryz.prog 193 fun193 := SC.okM s193 rfl (fn := Tryz.f193) (by kernel_rfl) (by kernel_rfl)
noncomputable def s195 : SC (Tryz.f195.body.getD .skip) := SC.mk' (by simp only [Tryz.f195, go_sem]; rfl)
noncomputable def fun195 : Fun := ⟨[0, 3, 8, 7, 4, 5, 22, 38, 6, 78, 92, 112, 145, 2], [5, 7], [], 1, s195.1, [.tmp 2], 9⟩
theorem ok195 : FnM Tryz.prog 195 fun195 := SC.okM s195 rfl (fn := Tryz.f195) (by kernel_rfl) (by kernel_rfl)
noncomputable def s201 : SC (Tryz.f201.body.getD .skip) := SC.mk' (by simp only [Tryz.f201, go_sem]; rfl)
noncomputable def fun201 : Fun := ⟨[0, 1, 8, 56, 3, 4, 5, 6, 54, 13, 19, 23, 36, 37, 44, 55, 57, 67, 79, 2], [1, 8], [], 1, s201.1, [.tmp 2], 6⟩
theorem ok201 : FnM Tryz.prog 201 fun201 := SC.okM s201 rfl (fn := Tryz.f201) (by kernel_rfl) (by kernel_rfl)
noncomputable def s293 : SC (Tryz.f293.body.getD .skip) := SC.mk' (by simp only [Tryz.f293, go_sem]; rfl)
noncomputable def fun293 : Fun := ⟨[0, 1, 2, 4, 6, 11, 3, 8, 9, 13, 22, 33, 44, 48, 52, 7], [3, 4, 6], [], 3, s293.1, [.cell 6 true 4, .tmp 7], 1⟩
theorem ok293 : FnM Tryz.prog 293 fun293 := SC.okM s293 rfl (fn := Tryz.f293) (by kernel_rfl) (by kernel_rfl)
noncomputable def s295 : SC (Tryz.f295.body.getD .skip) := SC.mk' (by simp only [Tryz.f295, go_sem]; rfl)
noncomputable def fun295 : Fun := ⟨[0, 1, 2, 3, 4, 8, 7, 10, 11, 17, 23, 39, 9], [4, 7, 8], [], 4, s295.1, [.cell 8 true 11, .tmp 9], 7⟩
theorem ok295 : FnM Tryz.prog 295 fun295 := SC.okM s295 rfl (fn := Tryz.f295) (by kernel_rfl) (by kernel_rfl)
noncomputable def s355 : SC (Tryz.f355.body.getD .skip) := SC.mk' (by simp only [Tryz.f355, go_sem]; rfl)
noncomputable def fun355 : Fun := ⟨[0, 1, 2, 4], [2], [], 2, s355.1, [.tmp 4], 0⟩
theorem ok355 : FnM Tryz.prog 355 fun355 := SC.okM s355 rfl (fn := Tryz.f355) (by kernel_rfl) (by kernel_rfl)
noncomputable def s357 : SC (Tryz.f357.body.getD .skip) := SC.mk' (by simp only [Tryz.f357, go_sem]; rfl)
noncomputable def fun357 : Fun := ⟨[0, 4, 2], [], [], 1, s357.1, [.tmp 2], 0⟩
theorem ok357 : FnM Tryz.prog 357 fun357 := SC.okM s357 rfl (fn := Tryz.f357) (by kernel_rfl) (by kernel_rfl)
noncomputable def s404 : SC (Tryz.f404.body.getD .skip) := SC.mk' (by simp only [Tryz.f404, go_sem]; rfl)
noncomputable def fun404 : Fun := ⟨[0, 1, 7, 3, 6, 8, 4, 2], [1], [], 1, s404.1, [.tmp 2], 1⟩
theorem ok404 : FnM Tryz.prog 404 fun404 := SC.okM s404 rfl (fn := Tryz.f404) (by kernel_rfl) (by kernel_rfl)
noncomputable def s406 : SC (Tryz.f406.body.getD .skip) := SC.mk' (by simp only [Tryz.f406, go_sem]; rfl)
noncomputable def fun406 : Fun := ⟨[0, 1, 15, 4, 13, 11, 14, 16, 28, 2], [1, 4], [], 1, s406.1, [.tmp 2], 2⟩
theorem ok406 : FnM Tryz.prog 406 fun406 := SC.okM s406 rfl (fn := Tryz.f406) (by kernel_rfl) (by kernel_rfl)
noncomputable def s407 : SC (Tryz.f407.body.getD .skip) := SC.mk' (by simp only [Tryz.f407, go_sem]; rfl)
noncomputable def fun407 : Fun := ⟨[0, 1, 4], [], [], 2, s407.1, [.tmp 4], 9⟩
theorem ok407 : FnM Tryz.prog 407 fun407 := SC.okM s407 rfl (fn := Tryz.f407) (by kernel_rfl) (by kernel_rfl)
noncomputable def s460 : SC (Tryz.f460.body.getD .skip) := SC.mk' (by simp only [Tryz.f460, go_sem]; rfl)
noncomputable def fun460 : Fun := ⟨[0, 1, 2, 3, 6, 9, 10, 23, 26, 7, 8], [3, 6], [], 3, s460.1, [.cell 6 true 11, .tmp 7, .tmp 8], 2⟩
theorem ok460 : FnM Tryz.prog 460 fun460 := SC.okM s460 rfl (fn := Tryz.f460) (by kernel_rfl) (by kernel_rfl)
noncomputable def s469 : SC (Tryz.f469.body.getD .skip) := SC.mk' (by simp only [Tryz.f469, go_sem]; rfl)
noncomputable def fun469 : Fun := ⟨[0, 1, 8, 5, 7, 9, 16, 4], [], [], 2, s469.1, [.tmp 4], 8⟩
theorem ok469 : FnM Tryz.prog 469 fun469 := SC.okM s469 rfl (fn := Tryz.f469) (by kernel_rfl) (by kernel_rfl)
noncomputable def s512 : SC (Tryz.f512.body.getD .skip) := SC.mk' (by simp only [Tryz.f512, go_sem]; rfl)
noncomputable def fun512 : Fun := ⟨[0, 1, 2, 3, 6, 11], [3, 6], [], 3, s512.1, [.cell 6 true 11], 1⟩
theorem ok512 : FnM Tryz.prog 512 fun512 := SC.okM s512 rfl (fn := Tryz.f512) (by kernel_rfl) (by kernel_rfl)
end Go.M
