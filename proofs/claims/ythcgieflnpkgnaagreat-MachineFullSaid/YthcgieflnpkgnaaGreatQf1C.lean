/-
  The codes of functions, as the machine takes them.
  No condition: definitions and lemmas.
-/
import Derived.Test.YthcgieflnpkgnaaGreatQtyC
set_option linter.all false
set_option maxRecDepth 100000
set_option maxHeartbeats 4000000
namespace Go.M
open Go Go.Proofs
open Go.Eng (SOp SOper SCode sizeP aggP zerosOf bytesP zeroVal stripCode stripOps stripOper strip stripParts kindsOf)

noncomputable def s13 : SC (Tryz.f13.body.getD .skip) := SC.mk' (by simp only [Tryz.f13, go_sem]; rfl)
noncomputable def fun13 : Fun := ⟨[0, 1, 2, 6], [6], [], 3, s13.1, [.cell 6 true 8], 0⟩
theorem ok13 : FnM Tryz.prog 13 fun13 := SC.okM s13 rfl (fn := Tryz.f13) (by kernel_rfl) (by kernel_rfl)
noncomputable def s24 : SC (Tryz.f24.body.getD .skip) := SC.mk' (by simp only [Tryz.f24, go_sem]; rfl)
noncomputable def fun24 : Fun := ⟨[0, 1, 6, 28, 2, 5, 7, 26, 10, 11, 23, 27, 29, 9, 34, 45, 3, 4], [1, 2, 10], [], 1, s24.1, [.cell 2 true 23, .tmp 3, .tmp 4], 19⟩
theorem ok24 : FnM Tryz.prog 24 fun24 := SC.okM s24 rfl (fn := Tryz.f24) (by kernel_rfl) (by kernel_rfl)
noncomputable def s52 : SC (Tryz.f52.body.getD .skip) := SC.mk' (by simp only [Tryz.f52, go_sem]; rfl)
noncomputable def fun52 : Fun := ⟨[0, 1, 2, 7, 9, 4, 6, 12, 96, 8, 11, 94, 14, 24, 10, 50, 84, 95, 97, 5], [2, 4, 7, 8, 9, 14], [], 2, s52.1, [.cell 4 true 23, .tmp 5], 18⟩
theorem ok52 : FnM Tryz.prog 52 fun52 := SC.okM s52 rfl (fn := Tryz.f52) (by kernel_rfl) (by kernel_rfl)
noncomputable def s59 : SC (Tryz.f59.body.getD .skip) := SC.mk' (by simp only [Tryz.f59, go_sem]; rfl)
noncomputable def fun59 : Fun := ⟨[0, 1, 2, 4, 6, 9, 10, 11, 3, 18, 24, 7, 8], [3, 4, 6, 11], [], 3, s59.1, [.cell 6 true 63, .tmp 7, .tmp 8], 2⟩
theorem ok59 : FnM Tryz.prog 59 fun59 := SC.okM s59 rfl (fn := Tryz.f59) (by kernel_rfl) (by kernel_rfl)
noncomputable def s72 : SC (Tryz.f72.body.getD .skip) := SC.mk' (by simp only [Tryz.f72, go_sem]; rfl)
noncomputable def fun72 : Fun := ⟨[0, 1, 2], [1, 2], [], 1, s72.1, [.cell 2 true 3], 0⟩
theorem ok72 : FnM Tryz.prog 72 fun72 := SC.okM s72 rfl (fn := Tryz.f72) (by kernel_rfl) (by kernel_rfl)
noncomputable def s91 : SC (Tryz.f91.body.getD .skip) := SC.mk' (by simp only [Tryz.f91, go_sem]; rfl)
noncomputable def fun91 : Fun := ⟨[0, 1, 2, 6], [], [], 3, s91.1, [.tmp 6], 0⟩
theorem ok91 : FnM Tryz.prog 91 fun91 := SC.okM s91 rfl (fn := Tryz.f91) (by kernel_rfl) (by kernel_rfl)
noncomputable def s92 : SC (Tryz.f92.body.getD .skip) := SC.mk' (by simp only [Tryz.f92, go_sem]; rfl)
noncomputable def fun92 : Fun := ⟨[0, 1, 2, 18, 5, 44, 71, 3, 6, 7, 59, 92, 8, 19, 9, 31, 32, 52, 62, 99, 107, 4], [2], [], 2, s92.1, [.tmp 4], 4⟩
theorem ok92 : FnM Tryz.prog 92 fun92 := SC.okM s92 rfl (fn := Tryz.f92) (by kernel_rfl) (by kernel_rfl)
noncomputable def s93 : SC (Tryz.f93.body.getD .skip) := SC.mk' (by simp only [Tryz.f93, go_sem]; rfl)
noncomputable def fun93 : Fun := ⟨[0, 4, 1, 10, 5, 2], [1], [], 1, s93.1, [.tmp 2], 0⟩
theorem ok93 : FnM Tryz.prog 93 fun93 := SC.okM s93 rfl (fn := Tryz.f93) (by kernel_rfl) (by kernel_rfl)
noncomputable def s95 : SC (Tryz.f95.body.getD .skip) := SC.mk' (by simp only [Tryz.f95, go_sem]; rfl)
noncomputable def fun95 : Fun := ⟨[0, 2], [], [], 1, s95.1, [.tmp 2], 0⟩
theorem ok95 : FnM Tryz.prog 95 fun95 := SC.okM s95 rfl (fn := Tryz.f95) (by kernel_rfl) (by kernel_rfl)
noncomputable def s98 : SC (Tryz.f98.body.getD .skip) := SC.mk' (by simp only [Tryz.f98, go_sem]; rfl)
noncomputable def fun98 : Fun := ⟨[0, 1, 2, 6, 7, 11, 15, 4, 5], [2], [], 2, s98.1, [.tmp 4, .tmp 5], 0⟩
theorem ok98 : FnM Tryz.prog 98 fun98 := SC.okM s98 rfl (fn := Tryz.f98) (by kernel_rfl) (by kernel_rfl)
noncomputable def s102 : SC (Tryz.f102.body.getD .skip) := SC.mk' (by simp only [Tryz.f102, go_sem]; rfl)
noncomputable def fun102 : Fun := ⟨[0, 5, 11, 3, 2], [], [], 1, s102.1, [.tmp 2], 2⟩
theorem ok102 : FnM Tryz.prog 102 fun102 := SC.okM s102 rfl (fn := Tryz.f102) (by kernel_rfl) (by kernel_rfl)
noncomputable def s106 : SC (Tryz.f106.body.getD .skip) := SC.mk' (by simp only [Tryz.f106, go_sem]; rfl)
noncomputable def fun106 : Fun := ⟨[0, 1, 2, 3, 4, 29, 7, 27, 10, 24, 28, 30, 6, 51, 61, 67, 5], [2, 3, 4], [], 2, s106.1, [.cell 4 true 26, .tmp 5], 3⟩
theorem ok106 : FnM Tryz.prog 106 fun106 := SC.okM s106 rfl (fn := Tryz.f106) (by kernel_rfl) (by kernel_rfl)
noncomputable def s116 : SC (Tryz.f116.body.getD .skip) := SC.mk' (by simp only [Tryz.f116, go_sem]; rfl)
noncomputable def fun116 : Fun := ⟨[0, 1, 3, 39, 37, 5, 9, 26, 31, 38, 40, 4, 50, 54, 2], [1, 5], [], 1, s116.1, [.tmp 2], 4⟩
theorem ok116 : FnM Tryz.prog 116 fun116 := SC.okM s116 rfl (fn := Tryz.f116) (by kernel_rfl) (by kernel_rfl)
noncomputable def s117 : SC (Tryz.f117.body.getD .skip) := SC.mk' (by simp only [Tryz.f117, go_sem]; rfl)
noncomputable def fun117 : Fun := ⟨[0, 1, 2], [1, 2], [], 1, s117.1, [.cell 2 true 6], 0⟩
theorem ok117 : FnM Tryz.prog 117 fun117 := SC.okM s117 rfl (fn := Tryz.f117) (by kernel_rfl) (by kernel_rfl)
noncomputable def s118 : SC (Tryz.f118.body.getD .skip) := SC.mk' (by simp only [Tryz.f118, go_sem]; rfl)
noncomputable def fun118 : Fun := ⟨[0, 1, 2, 4], [2], [], 2, s118.1, [.tmp 4], 8⟩
theorem ok118 : FnM Tryz.prog 118 fun118 := SC.okM s118 rfl (fn := Tryz.f118) (by kernel_rfl) (by kernel_rfl)
noncomputable def s138 : SC (Tryz.f138.body.getD .skip) := SC.mk' (by simp only [Tryz.f138, go_sem]; rfl)
noncomputable def fun138 : Fun := ⟨[0, 17, 2, 5, 15, 4, 13, 16, 18, 40, 3], [2], [], 1, s138.1, [.cell 2 true 5, .tmp 3], 1⟩
theorem ok138 : FnM Tryz.prog 138 fun138 := SC.okM s138 rfl (fn := Tryz.f138) (by kernel_rfl) (by kernel_rfl)
noncomputable def s143 : SC (Tryz.f143.body.getD .skip) := SC.mk' (by simp only [Tryz.f143, go_sem]; rfl)
noncomputable def fun143 : Fun := ⟨[0, 1, 2, 3, 4, 12, 10, 13, 23, 11], [10, 12], [], 5, s143.1, [.cell 10 true 7, .tmp 11], 2⟩
theorem ok143 : FnM Tryz.prog 143 fun143 := SC.okM s143 rfl (fn := Tryz.f143) (by kernel_rfl) (by kernel_rfl)
noncomputable def s144 : SC (Tryz.f144.body.getD .skip) := SC.mk' (by simp only [Tryz.f144, go_sem]; rfl)
noncomputable def fun144 : Fun := ⟨[0, 1, 2, 13, 8, 12, 14, 21, 23, 27, 6], [], [], 3, s144.1, [.tmp 6], 0⟩
theorem ok144 : FnM Tryz.prog 144 fun144 := SC.okM s144 rfl (fn := Tryz.f144) (by kernel_rfl) (by kernel_rfl)
noncomputable def s167 : SC (Tryz.f167.body.getD .skip) := SC.mk' (by simp only [Tryz.f167, go_sem]; rfl)
noncomputable def fun167 : Fun := ⟨[0, 5, 8, 3, 6, 7, 9, 27, 2], [5], [], 1, s167.1, [.tmp 2], 0⟩
theorem ok167 : FnM Tryz.prog 167 fun167 := SC.okM s167 rfl (fn := Tryz.f167) (by kernel_rfl) (by kernel_rfl)
noncomputable def s197 : SC (Tryz.f197.body.getD .skip) := SC.mk' (by simp only [Tryz.f197, go_sem]; rfl)
noncomputable def fun197 : Fun := ⟨[0, 3, 31, 2], [], [], 1, s197.1, [.tmp 2], 2⟩
theorem ok197 : FnM Tryz.prog 197 fun197 := SC.okM s197 rfl (fn := Tryz.f197) (by kernel_rfl) (by kernel_rfl)
noncomputable def s198 : SC (Tryz.f198.body.getD .skip) := SC.mk' (by simp only [Tryz.f198, go_sem]; rfl)
noncomputable def fun198 : Fun := ⟨[0, 3, 4, 5, 6, 28, 50, 60, 86, 114, 133, 139, 153, 2], [3], [], 1, s198.1, [.tmp 2], 8⟩
theorem ok198 : FnM Tryz.prog 198 fun198 := SC.okM s198 rfl (fn := Tryz.f198) (by kernel_rfl) (by kernel_rfl)
noncomputable def s242 : SC (Tryz.f242.body.getD .skip) := SC.mk' (by simp only [Tryz.f242, go_sem]; rfl)
noncomputable def fun242 : Fun := ⟨[0, 1, 5, 2, 9, 12, 4], [2], [], 2, s242.1, [.tmp 4], 8⟩
theorem ok242 : FnM Tryz.prog 242 fun242 := SC.okM s242 rfl (fn := Tryz.f242) (by kernel_rfl) (by kernel_rfl)
noncomputable def s244 : SC (Tryz.f244.body.getD .skip) := SC.mk' (by simp only [Tryz.f244, go_sem]; rfl)
noncomputable def fun244 : Fun := ⟨[0, 2], [], [], 1, s244.1, [.tmp 2], 1⟩
theorem ok244 : FnM Tryz.prog 244 fun244 := SC.okM s244 rfl (fn := Tryz.f244) (by kernel_rfl) (by kernel_rfl)
noncomputable def s248 : SC (Tryz.f248.body.getD .skip) := SC.mk' (by simp only [Tryz.f248, go_sem]; rfl)
noncomputable def fun248 : Fun := ⟨[0, 1, 2, 4], [2], [], 2, s248.1, [.tmp 4], 0⟩
theorem ok248 : FnM Tryz.prog 248 fun248 := SC.okM s248 rfl (fn := Tryz.f248) (by kernel_rfl) (by kernel_rfl)
noncomputable def s252 : SC (Tryz.f252.body.getD .skip) := SC.mk' (by simp only [Tryz.f252, go_sem]; rfl)
noncomputable def fun252 : Fun := ⟨[0, 1, 2], [1, 2], [], 1, s252.1, [.cell 2 true 8], 1⟩
theorem ok252 : FnM Tryz.prog 252 fun252 := SC.okM s252 rfl (fn := Tryz.f252) (by kernel_rfl) (by kernel_rfl)
noncomputable def s292 : SC (Tryz.f292.body.getD .skip) := SC.mk' (by simp only [Tryz.f292, go_sem]; rfl)
noncomputable def fun292 : Fun := ⟨[0, 2], [], [], 1, s292.1, [.tmp 2], 0⟩
theorem ok292 : FnM Tryz.prog 292 fun292 := SC.okM s292 rfl (fn := Tryz.f292) (by kernel_rfl) (by kernel_rfl)
noncomputable def s302 : SC (Tryz.f302.body.getD .skip) := SC.mk' (by simp only [Tryz.f302, go_sem]; rfl)
noncomputable def fun302 : Fun := ⟨[0, 1, 2, 6], [], [], 3, s302.1, [.tmp 6], 0⟩
theorem ok302 : FnM Tryz.prog 302 fun302 := SC.okM s302 rfl (fn := Tryz.f302) (by kernel_rfl) (by kernel_rfl)
noncomputable def s305 : SC (Tryz.f305.body.getD .skip) := SC.mk' (by simp only [Tryz.f305, go_sem]; rfl)
noncomputable def fun305 : Fun := ⟨[0, 1, 2, 6, 3], [1, 2], [], 1, s305.1, [.cell 2 true 5, .tmp 3], 0⟩
theorem ok305 : FnM Tryz.prog 305 fun305 := SC.okM s305 rfl (fn := Tryz.f305) (by kernel_rfl) (by kernel_rfl)
noncomputable def s353 : SC (Tryz.f353.body.getD .skip) := SC.mk' (by simp only [Tryz.f353, go_sem]; rfl)
noncomputable def fun353 : Fun := ⟨[0, 1, 2, 3, 5, 6, 10, 15, 17, 24, 4], [2, 3], [], 2, s353.1, [.tmp 4], 10⟩
theorem ok353 : FnM Tryz.prog 353 fun353 := SC.okM s353 rfl (fn := Tryz.f353) (by kernel_rfl) (by kernel_rfl)
noncomputable def s356 : SC (Tryz.f356.body.getD .skip) := SC.mk' (by simp only [Tryz.f356, go_sem]; rfl)
noncomputable def fun356 : Fun := ⟨[0, 4, 2], [], [], 1, s356.1, [.tmp 2], 0⟩
theorem ok356 : FnM Tryz.prog 356 fun356 := SC.okM s356 rfl (fn := Tryz.f356) (by kernel_rfl) (by kernel_rfl)
noncomputable def s389 : SC (Tryz.f389.body.getD .skip) := SC.mk' (by simp only [Tryz.f389, go_sem]; rfl)
noncomputable def fun389 : Fun := ⟨[0, 1, 2, 4, 3, 6, 7, 10, 21, 9, 38, 42, 53, 55, 8], [3, 4, 6, 7], [], 3, s389.1, [.cell 6 true 11, .cell 7 true 5, .tmp 8], 3⟩
theorem ok389 : FnM Tryz.prog 389 fun389 := SC.okM s389 rfl (fn := Tryz.f389) (by kernel_rfl) (by kernel_rfl)
noncomputable def s392 : SC (Tryz.f392.body.getD .skip) := SC.mk' (by simp only [Tryz.f392, go_sem]; rfl)
noncomputable def fun392 : Fun := ⟨[0, 1, 3], [], [], 2, s392.1, [.tmp 3], 0⟩
theorem ok392 : FnM Tryz.prog 392 fun392 := SC.okM s392 rfl (fn := Tryz.f392) (by kernel_rfl) (by kernel_rfl)
noncomputable def s403 : SC (Tryz.f403.body.getD .skip) := SC.mk' (by simp only [Tryz.f403, go_sem]; rfl)
noncomputable def fun403 : Fun := ⟨[0, 1, 2, 3, 24, 9, 45, 6, 7, 22, 43, 11, 19, 23, 25, 37, 44, 46, 53], [3, 9, 11], [], 3, s403.1, [.tmp 6, .tmp 7], 9⟩
theorem ok403 : FnM Tryz.prog 403 fun403 := SC.okM s403 rfl (fn := Tryz.f403) (by kernel_rfl) (by kernel_rfl)
noncomputable def s431 : SC (Tryz.f431.body.getD .skip) := SC.mk' (by simp only [Tryz.f431, go_sem]; rfl)
noncomputable def fun431 : Fun := ⟨[0, 1, 8, 5, 7, 9, 16, 4], [], [], 2, s431.1, [.tmp 4], 0⟩
theorem ok431 : FnM Tryz.prog 431 fun431 := SC.okM s431 rfl (fn := Tryz.f431) (by kernel_rfl) (by kernel_rfl)
noncomputable def s465 : SC (Tryz.f465.body.getD .skip) := SC.mk' (by simp only [Tryz.f465, go_sem]; rfl)
noncomputable def fun465 : Fun := ⟨[0, 1, 4], [], [], 2, s465.1, [.tmp 4], 3⟩
theorem ok465 : FnM Tryz.prog 465 fun465 := SC.okM s465 rfl (fn := Tryz.f465) (by kernel_rfl) (by kernel_rfl)
noncomputable def s493 : SC (Tryz.f493.body.getD .skip) := SC.mk' (by simp only [Tryz.f493, go_sem]; rfl)
noncomputable def fun493 : Fun := ⟨[0, 1, 8, 5, 7, 9, 16, 4], [], [], 2, s493.1, [.tmp 4], 2⟩
theorem ok493 : FnM Tryz.prog 493 fun493 := SC.okM s493 rfl (fn := Tryz.f493) (by kernel_rfl) (by kernel_rfl)
noncomputable def s511 : SC (Tryz.f511.body.getD .skip) := SC.mk' (by simp only [Tryz.f511, go_sem]; rfl)
noncomputable def fun511 : Fun := ⟨[0, 1, 2, 6, 16, 4, 5], [2], [], 2, s511.1, [.tmp 4, .tmp 5], 0⟩
theorem ok511 : FnM Tryz.prog 511 fun511 := SC.okM s511 rfl (fn := Tryz.f511) (by kernel_rfl) (by kernel_rfl)
end Go.M
