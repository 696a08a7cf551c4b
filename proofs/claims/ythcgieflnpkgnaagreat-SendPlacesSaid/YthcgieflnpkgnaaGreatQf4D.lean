/-
  The codes of functions, as the machine takes them.
  No condition: definitions and lemmas.
-/
import Derived.Test.YthcgieflnpkgnaaGreatQtyD
set_option linter.all false
set_option maxRecDepth 100000
set_option maxHeartbeats 4000000
namespace Go.M
open Go Go.Proofs
open Go.Eng (SOp SOper SCode sizeP aggP zerosOf bytesP zeroVal stripCode stripOps stripOper strip stripParts kindsOf)

noncomputable def s3 : SC (Tryz.f3.body.getD .skip) := SC.mk' (by simp only [Tryz.f3, go_sem]; rfl)
noncomputable def fun3 : Fun := ⟨[0, 1, 2, 8, 11, 16, 12, 17, 18, 7, 13, 10, 19, 22, 9, 34, 40, 14, 15, 89, 91, 158, 6], [7, 8, 12], [116], 3, s3.1, [.tmp 6], 20⟩
theorem ok3 : FnM Tryz.prog 3 fun3 := SC.okM s3 rfl (fn := Tryz.f3) (by kernel_rfl) (by kernel_rfl)
noncomputable def s9 : SC (Tryz.f9.body.getD .skip) := SC.mk' (by simp only [Tryz.f9, go_sem]; rfl)
noncomputable def fun9 : Fun := ⟨[0, 1, 2], [1], [], 1, s9.1, [.tmp 2], 4⟩
theorem ok9 : FnM Tryz.prog 9 fun9 := SC.okM s9 rfl (fn := Tryz.f9) (by kernel_rfl) (by kernel_rfl)
noncomputable def s30 : SC (Tryz.f30.body.getD .skip) := SC.mk' (by simp only [Tryz.f30, go_sem]; rfl)
noncomputable def fun30 : Fun := ⟨[0, 2, 9, 3], [2], [], 1, s30.1, [.cell 2 true 2, .tmp 3], 0⟩
theorem ok30 : FnM Tryz.prog 30 fun30 := SC.okM s30 rfl (fn := Tryz.f30) (by kernel_rfl) (by kernel_rfl)
noncomputable def s33 : SC (Tryz.f33.body.getD .skip) := SC.mk' (by simp only [Tryz.f33, go_sem]; rfl)
noncomputable def fun33 : Fun := ⟨[0, 1, 5, 2], [1], [], 1, s33.1, [.tmp 2], 3⟩
theorem ok33 : FnM Tryz.prog 33 fun33 := SC.okM s33 rfl (fn := Tryz.f33) (by kernel_rfl) (by kernel_rfl)
noncomputable def s37 : SC (Tryz.f37.body.getD .skip) := SC.mk' (by simp only [Tryz.f37, go_sem]; rfl)
noncomputable def fun37 : Fun := ⟨[0, 1, 2, 4, 5, 12, 3], [1, 2, 4], [], 1, s37.1, [.cell 2 true 23, .tmp 3], 3⟩
theorem ok37 : FnM Tryz.prog 37 fun37 := SC.okM s37 rfl (fn := Tryz.f37) (by kernel_rfl) (by kernel_rfl)
noncomputable def s53 : SC (Tryz.f53.body.getD .skip) := SC.mk' (by simp only [Tryz.f53, go_sem]; rfl)
noncomputable def fun53 : Fun := ⟨[0, 1, 8, 5, 7, 9, 16, 4], [], [], 2, s53.1, [.tmp 4], 0⟩
theorem ok53 : FnM Tryz.prog 53 fun53 := SC.okM s53 rfl (fn := Tryz.f53) (by kernel_rfl) (by kernel_rfl)
noncomputable def s58 : SC (Tryz.f58.body.getD .skip) := SC.mk' (by simp only [Tryz.f58, go_sem]; rfl)
noncomputable def fun58 : Fun := ⟨[0, 1, 3, 6, 2], [1], [], 1, s58.1, [.tmp 2], 0⟩
theorem ok58 : FnM Tryz.prog 58 fun58 := SC.okM s58 rfl (fn := Tryz.f58) (by kernel_rfl) (by kernel_rfl)
noncomputable def s60 : SC (Tryz.f60.body.getD .skip) := SC.mk' (by simp only [Tryz.f60, go_sem]; rfl)
noncomputable def fun60 : Fun := ⟨[0, 1, 3, 2, 8, 4, 5, 7, 21, 26, 6], [2, 3, 4, 5], [], 2, s60.1, [.cell 4 true 11, .cell 5 true 63, .tmp 6], 3⟩
theorem ok60 : FnM Tryz.prog 60 fun60 := SC.okM s60 rfl (fn := Tryz.f60) (by kernel_rfl) (by kernel_rfl)
noncomputable def s61 : SC (Tryz.f61.body.getD .skip) := SC.mk' (by simp only [Tryz.f61, go_sem]; rfl)
noncomputable def fun61 : Fun := ⟨[0, 1, 3, 2, 4, 6, 5], [2, 3, 4], [], 2, s61.1, [.cell 4 true 63, .tmp 5], 6⟩
theorem ok61 : FnM Tryz.prog 61 fun61 := SC.okM s61 rfl (fn := Tryz.f61) (by kernel_rfl) (by kernel_rfl)
noncomputable def s64 : SC (Tryz.f64.body.getD .skip) := SC.mk' (by simp only [Tryz.f64, go_sem]; rfl)
noncomputable def fun64 : Fun := ⟨[0, 1, 4, 3, 8, 2], [1], [], 1, s64.1, [.tmp 2], 0⟩
theorem ok64 : FnM Tryz.prog 64 fun64 := SC.okM s64 rfl (fn := Tryz.f64) (by kernel_rfl) (by kernel_rfl)
noncomputable def s65 : SC (Tryz.f65.body.getD .skip) := SC.mk' (by simp only [Tryz.f65, go_sem]; rfl)
noncomputable def fun65 : Fun := ⟨[0, 1, 6, 7, 8, 3, 4, 5, 13, 19, 31, 43, 49, 55, 61, 81, 85, 96, 2], [1], [], 1, s65.1, [.tmp 2], 6⟩
theorem ok65 : FnM Tryz.prog 65 fun65 := SC.okM s65 rfl (fn := Tryz.f65) (by kernel_rfl) (by kernel_rfl)
noncomputable def s93 : SC (Tryz.f93.body.getD .skip) := SC.mk' (by simp only [Tryz.f93, go_sem]; rfl)
noncomputable def fun93 : Fun := ⟨[0, 4, 1, 10, 5, 2], [1], [], 1, s93.1, [.tmp 2], 0⟩
theorem ok93 : FnM Tryz.prog 93 fun93 := SC.okM s93 rfl (fn := Tryz.f93) (by kernel_rfl) (by kernel_rfl)
noncomputable def s101 : SC (Tryz.f101.body.getD .skip) := SC.mk' (by simp only [Tryz.f101, go_sem]; rfl)
noncomputable def fun101 : Fun := ⟨[0, 2, 9, 3], [2], [], 1, s101.1, [.cell 2 true 2, .tmp 3], 0⟩
theorem ok101 : FnM Tryz.prog 101 fun101 := SC.okM s101 rfl (fn := Tryz.f101) (by kernel_rfl) (by kernel_rfl)
noncomputable def s103 : SC (Tryz.f103.body.getD .skip) := SC.mk' (by simp only [Tryz.f103, go_sem]; rfl)
noncomputable def fun103 : Fun := ⟨[0, 1, 4, 6, 7, 14, 22, 5], [4, 6], [], 2, s103.1, [.cell 4 true 26, .tmp 5], 2⟩
theorem ok103 : FnM Tryz.prog 103 fun103 := SC.okM s103 rfl (fn := Tryz.f103) (by kernel_rfl) (by kernel_rfl)
noncomputable def s138 : SC (Tryz.f138.body.getD .skip) := SC.mk' (by simp only [Tryz.f138, go_sem]; rfl)
noncomputable def fun138 : Fun := ⟨[0, 17, 2, 5, 15, 4, 13, 16, 18, 40, 3], [2], [], 1, s138.1, [.cell 2 true 5, .tmp 3], 1⟩
theorem ok138 : FnM Tryz.prog 138 fun138 := SC.okM s138 rfl (fn := Tryz.f138) (by kernel_rfl) (by kernel_rfl)
noncomputable def s139 : SC (Tryz.f139.body.getD .skip) := SC.mk' (by simp only [Tryz.f139, go_sem]; rfl)
noncomputable def fun139 : Fun := ⟨[0], [0], [], 0, s139.1, [.cell 0 true 4], 0⟩
theorem ok139 : FnM Tryz.prog 139 fun139 := SC.okM s139 rfl (fn := Tryz.f139) (by kernel_rfl) (by kernel_rfl)
noncomputable def s145 : SC (Tryz.f145.body.getD .skip) := SC.mk' (by simp only [Tryz.f145, go_sem]; rfl)
noncomputable def fun145 : Fun := ⟨[0, 1, 2, 4, 6, 3, 10, 5], [2, 3, 4], [], 2, s145.1, [.cell 4 true 8, .tmp 5], 13⟩
theorem ok145 : FnM Tryz.prog 145 fun145 := SC.okM s145 rfl (fn := Tryz.f145) (by kernel_rfl) (by kernel_rfl)
noncomputable def s168 : SC (Tryz.f168.body.getD .skip) := SC.mk' (by simp only [Tryz.f168, go_sem]; rfl)
noncomputable def fun168 : Fun := ⟨[0, 1, 4], [], [], 2, s168.1, [.tmp 4], 2⟩
theorem ok168 : FnM Tryz.prog 168 fun168 := SC.okM s168 rfl (fn := Tryz.f168) (by kernel_rfl) (by kernel_rfl)
noncomputable def s169 : SC (Tryz.f169.body.getD .skip) := SC.mk' (by simp only [Tryz.f169, go_sem]; rfl)
noncomputable def fun169 : Fun := ⟨[0, 1, 2, 3], [2], [], 2, s169.1, [.tmp 3], 0⟩
theorem ok169 : FnM Tryz.prog 169 fun169 := SC.okM s169 rfl (fn := Tryz.f169) (by kernel_rfl) (by kernel_rfl)
noncomputable def s195 : SC (Tryz.f195.body.getD .skip) := SC.mk' (by simp only [Tryz.f195, go_sem]; rfl)
noncomputable def fun195 : Fun := ⟨[0, 3, 8, 7, 4, 5, 22, 38, 6, 78, 92, 112, 145, 2], [5, 7], [], 1, s195.1, [.tmp 2], 9⟩
theorem ok195 : FnM Tryz.prog 195 fun195 := SC.okM s195 rfl (fn := Tryz.f195) (by kernel_rfl) (by kernel_rfl)
noncomputable def s197 : SC (Tryz.f197.body.getD .skip) := SC.mk' (by simp only [Tryz.f197, go_sem]; rfl)
noncomputable def fun197 : Fun := ⟨[0, 3, 31, 2], [], [], 1, s197.1, [.tmp 2], 2⟩
theorem ok197 : FnM Tryz.prog 197 fun197 := SC.okM s197 rfl (fn := Tryz.f197) (by kernel_rfl) (by kernel_rfl)
noncomputable def s203 : SC (Tryz.f203.body.getD .skip) := SC.mk' (by simp only [Tryz.f203, go_sem]; rfl)
noncomputable def fun203 : Fun := ⟨[0, 1, 38, 42, 2], [1], [], 1, s203.1, [.tmp 2], 1⟩
theorem ok203 : FnM Tryz.prog 203 fun203 := SC.okM s203 rfl (fn := Tryz.f203) (by kernel_rfl) (by kernel_rfl)
noncomputable def s204 : SC (Tryz.f204.body.getD .skip) := SC.mk' (by simp only [Tryz.f204, go_sem]; rfl)
noncomputable def fun204 : Fun := ⟨[0, 1, 2, 4, 3, 6, 7, 11, 14, 24, 29, 46, 5], [2, 3, 4], [], 2, s204.1, [.cell 4 true 8, .tmp 5], 12⟩
theorem ok204 : FnM Tryz.prog 204 fun204 := SC.okM s204 rfl (fn := Tryz.f204) (by kernel_rfl) (by kernel_rfl)
noncomputable def s291 : SC (Tryz.f291.body.getD .skip) := SC.mk' (by simp only [Tryz.f291, go_sem]; rfl)
noncomputable def fun291 : Fun := ⟨[0, 1, 2, 4, 9, 5], [2, 4], [], 2, s291.1, [.cell 4 true 8, .tmp 5], 1⟩
theorem ok291 : FnM Tryz.prog 291 fun291 := SC.okM s291 rfl (fn := Tryz.f291) (by kernel_rfl) (by kernel_rfl)
noncomputable def s292 : SC (Tryz.f292.body.getD .skip) := SC.mk' (by simp only [Tryz.f292, go_sem]; rfl)
noncomputable def fun292 : Fun := ⟨[0, 2], [], [], 1, s292.1, [.tmp 2], 0⟩
theorem ok292 : FnM Tryz.prog 292 fun292 := SC.okM s292 rfl (fn := Tryz.f292) (by kernel_rfl) (by kernel_rfl)
noncomputable def s298 : SC (Tryz.f298.body.getD .skip) := SC.mk' (by simp only [Tryz.f298, go_sem]; rfl)
noncomputable def fun298 : Fun := ⟨[0, 1, 2, 3, 8, 11, 4, 5, 10, 12, 18, 27, 43, 9], [4, 5, 8, 11], [], 4, s298.1, [.cell 8 true 4, .tmp 9], 10⟩
theorem ok298 : FnM Tryz.prog 298 fun298 := SC.okM s298 rfl (fn := Tryz.f298) (by kernel_rfl) (by kernel_rfl)
noncomputable def s299 : SC (Tryz.f299.body.getD .skip) := SC.mk' (by simp only [Tryz.f299, go_sem]; rfl)
noncomputable def fun299 : Fun := ⟨[0, 1, 3, 8, 4, 61, 5, 6, 59, 9, 40, 45, 56, 60, 62, 68, 81, 2], [1, 8], [], 1, s299.1, [.tmp 2], 2⟩
theorem ok299 : FnM Tryz.prog 299 fun299 := SC.okM s299 rfl (fn := Tryz.f299) (by kernel_rfl) (by kernel_rfl)
noncomputable def s301 : SC (Tryz.f301.body.getD .skip) := SC.mk' (by simp only [Tryz.f301, go_sem]; rfl)
noncomputable def fun301 : Fun := ⟨[0, 13, 1, 3, 11, 5, 12, 14, 2], [1, 5], [], 1, s301.1, [.tmp 2], 4⟩
theorem ok301 : FnM Tryz.prog 301 fun301 := SC.okM s301 rfl (fn := Tryz.f301) (by kernel_rfl) (by kernel_rfl)
noncomputable def s303 : SC (Tryz.f303.body.getD .skip) := SC.mk' (by simp only [Tryz.f303, go_sem]; rfl)
noncomputable def fun303 : Fun := ⟨[0, 1, 2], [1], [], 1, s303.1, [.tmp 2], 1⟩
theorem ok303 : FnM Tryz.prog 303 fun303 := SC.okM s303 rfl (fn := Tryz.f303) (by kernel_rfl) (by kernel_rfl)
noncomputable def s304 : SC (Tryz.f304.body.getD .skip) := SC.mk' (by simp only [Tryz.f304, go_sem]; rfl)
noncomputable def fun304 : Fun := ⟨[0, 1, 2, 3, 4], [2], [], 2, s304.1, [.tmp 4], 10⟩
theorem ok304 : FnM Tryz.prog 304 fun304 := SC.okM s304 rfl (fn := Tryz.f304) (by kernel_rfl) (by kernel_rfl)
noncomputable def s305 : SC (Tryz.f305.body.getD .skip) := SC.mk' (by simp only [Tryz.f305, go_sem]; rfl)
noncomputable def fun305 : Fun := ⟨[0, 1, 2, 6, 3], [1, 2], [], 1, s305.1, [.cell 2 true 5, .tmp 3], 0⟩
theorem ok305 : FnM Tryz.prog 305 fun305 := SC.okM s305 rfl (fn := Tryz.f305) (by kernel_rfl) (by kernel_rfl)
noncomputable def s349 : SC (Tryz.f349.body.getD .skip) := SC.mk' (by simp only [Tryz.f349, go_sem]; rfl)
noncomputable def fun349 : Fun := ⟨[0, 1, 4], [], [], 2, s349.1, [.tmp 4], 1⟩
theorem ok349 : FnM Tryz.prog 349 fun349 := SC.okM s349 rfl (fn := Tryz.f349) (by kernel_rfl) (by kernel_rfl)
noncomputable def s355 : SC (Tryz.f355.body.getD .skip) := SC.mk' (by simp only [Tryz.f355, go_sem]; rfl)
noncomputable def fun355 : Fun := ⟨[0, 1, 2, 4], [2], [], 2, s355.1, [.tmp 4], 0⟩
theorem ok355 : FnM Tryz.prog 355 fun355 := SC.okM s355 rfl (fn := Tryz.f355) (by kernel_rfl) (by kernel_rfl)
noncomputable def s356 : SC (Tryz.f356.body.getD .skip) := SC.mk' (by simp only [Tryz.f356, go_sem]; rfl)
noncomputable def fun356 : Fun := ⟨[0, 4, 2], [], [], 1, s356.1, [.tmp 2], 0⟩
theorem ok356 : FnM Tryz.prog 356 fun356 := SC.okM s356 rfl (fn := Tryz.f356) (by kernel_rfl) (by kernel_rfl)
noncomputable def s390 : SC (Tryz.f390.body.getD .skip) := SC.mk' (by simp only [Tryz.f390, go_sem]; rfl)
noncomputable def fun390 : Fun := ⟨[0, 1, 2, 4, 3, 6, 7, 9, 20, 37, 54, 58, 8], [3, 4, 6, 7], [], 3, s390.1, [.cell 6 true 11, .cell 7 true 5, .tmp 8], 3⟩
theorem ok390 : FnM Tryz.prog 390 fun390 := SC.okM s390 rfl (fn := Tryz.f390) (by kernel_rfl) (by kernel_rfl)
noncomputable def s405 : SC (Tryz.f405.body.getD .skip) := SC.mk' (by simp only [Tryz.f405, go_sem]; rfl)
noncomputable def fun405 : Fun := ⟨[0, 13, 5, 11, 4, 8, 10, 12, 14, 3, 23, 28, 36, 2], [4], [], 1, s405.1, [.tmp 2], 4⟩
theorem ok405 : FnM Tryz.prog 405 fun405 := SC.okM s405 rfl (fn := Tryz.f405) (by kernel_rfl) (by kernel_rfl)
noncomputable def s491 : SC (Tryz.f491.body.getD .skip) := SC.mk' (by simp only [Tryz.f491, go_sem]; rfl)
noncomputable def fun491 : Fun := ⟨[0, 1, 2, 3], [2], [], 2, s491.1, [.tmp 3], 0⟩
theorem ok491 : FnM Tryz.prog 491 fun491 := SC.okM s491 rfl (fn := Tryz.f491) (by kernel_rfl) (by kernel_rfl)
noncomputable def s511 : SC (Tryz.f511.body.getD .skip) := SC.mk' (by simp only [Tryz.f511, go_sem]; rfl)
noncomputable def fun511 : Fun := ⟨[0, 1, 2, 6, 16, 4, 5], [2], [], 2, s511.1, [.tmp 4, .tmp 5], 0⟩
theorem ok511 : FnM Tryz.prog 511 fun511 := SC.okM s511 rfl (fn := Tryz.f511) (by kernel_rfl) (by kernel_rfl)
end Go.M
