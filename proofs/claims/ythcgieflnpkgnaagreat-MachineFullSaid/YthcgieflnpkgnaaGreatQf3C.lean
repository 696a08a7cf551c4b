/-
  The codes of functions, as the machine takes them.
  No condition: definitions and lemmas.
-/
import Derived.Test.YthcgieflnpkgnaaGreatQtyC
set_option linter.all false
set_option maxRecDepth 100000
set_option maxHeartbeats 4000000
namespace Go.M
open Go Go.Proofs
open Go.Eng (SOp SOper SCode sizeP aggP zerosOf bytesP zeroVal stripCode stripOps stripOper strip stripParts kindsOf)

noncomputable def s6 : SC (Tryz.f6.body.getD .skip) := SC.mk' (by simp only [Tryz.f6, go_sem]; rfl)
noncomputable def fun6 : Fun := ⟨[0, 8, 3, 5, 6, 4, 15, 21, 7, 52, 54, 62, 2], [3, 6], [], 1, s6.1, [.tmp 2], 21⟩
theorem ok6 : FnM Tryz.prog 6 fun6 := SC.okM s6 rfl (fn := Tryz.f6) (by kernel_rfl) (by kernel_rfl)
noncomputable def s22 : SC (Tryz.f22.body.getD .skip) := SC.mk' (by simp only [Tryz.f22, go_sem]; rfl)
noncomputable def fun22 : Fun := ⟨[0, 1, 2, 4, 5, 12, 3], [1, 2, 4], [], 1, s22.1, [.cell 2 true 23, .tmp 3], 7⟩
theorem ok22 : FnM Tryz.prog 22 fun22 := SC.okM s22 rfl (fn := Tryz.f22) (by kernel_rfl) (by kernel_rfl)
noncomputable def s25 : SC (Tryz.f25.body.getD .skip) := SC.mk' (by simp only [Tryz.f25, go_sem]; rfl)
noncomputable def fun25 : Fun := ⟨[1, 2, 3, 4, 5, 6, 0], [1], [], 0, s25.1, [.tmp 0], 20⟩
theorem ok25 : FnM Tryz.prog 25 fun25 := SC.okM s25 rfl (fn := Tryz.f25) (by kernel_rfl) (by kernel_rfl)
noncomputable def s50 : SC (Tryz.f50.body.getD .skip) := SC.mk' (by simp only [Tryz.f50, go_sem]; rfl)
noncomputable def fun50 : Fun := ⟨[0, 2], [], [], 1, s50.1, [.tmp 2], 0⟩
theorem ok50 : FnM Tryz.prog 50 fun50 := SC.okM s50 rfl (fn := Tryz.f50) (by kernel_rfl) (by kernel_rfl)
noncomputable def s51 : SC (Tryz.f51.body.getD .skip) := SC.mk' (by simp only [Tryz.f51, go_sem]; rfl)
noncomputable def fun51 : Fun := ⟨[0, 1, 4, 6, 19, 3, 5, 17, 8, 18, 20, 2], [1], [30], 1, s51.1, [.tmp 2], 1⟩
theorem ok51 : FnM Tryz.prog 51 fun51 := SC.okM s51 rfl (fn := Tryz.f51) (by kernel_rfl) (by kernel_rfl)
noncomputable def s58 : SC (Tryz.f58.body.getD .skip) := SC.mk' (by simp only [Tryz.f58, go_sem]; rfl)
noncomputable def fun58 : Fun := ⟨[0, 1, 3, 6, 2], [1], [], 1, s58.1, [.tmp 2], 0⟩
theorem ok58 : FnM Tryz.prog 58 fun58 := SC.okM s58 rfl (fn := Tryz.f58) (by kernel_rfl) (by kernel_rfl)
noncomputable def s60 : SC (Tryz.f60.body.getD .skip) := SC.mk' (by simp only [Tryz.f60, go_sem]; rfl)
noncomputable def fun60 : Fun := ⟨[0, 1, 3, 2, 8, 4, 5, 7, 21, 26, 6], [2, 3, 4, 5], [], 2, s60.1, [.cell 4 true 11, .cell 5 true 63, .tmp 6], 3⟩
theorem ok60 : FnM Tryz.prog 60 fun60 := SC.okM s60 rfl (fn := Tryz.f60) (by kernel_rfl) (by kernel_rfl)
noncomputable def s90 : SC (Tryz.f90.body.getD .skip) := SC.mk' (by simp only [Tryz.f90, go_sem]; rfl)
noncomputable def fun90 : Fun := ⟨[0, 1, 2, 6, 8, 9, 16, 22, 7], [6, 8], [], 3, s90.1, [.cell 6 true 8, .tmp 7], 1⟩
theorem ok90 : FnM Tryz.prog 90 fun90 := SC.okM s90 rfl (fn := Tryz.f90) (by kernel_rfl) (by kernel_rfl)
noncomputable def s99 : SC (Tryz.f99.body.getD .skip) := SC.mk' (by simp only [Tryz.f99, go_sem]; rfl)
noncomputable def fun99 : Fun := ⟨[0, 1, 2, 3, 7, 4, 6, 36], [3, 4, 6, 7], [], 3, s99.1, [.cell 6 true 63], 1⟩
theorem ok99 : FnM Tryz.prog 99 fun99 := SC.okM s99 rfl (fn := Tryz.f99) (by kernel_rfl) (by kernel_rfl)
noncomputable def s126 : SC (Tryz.f126.body.getD .skip) := SC.mk' (by simp only [Tryz.f126, go_sem]; rfl)
noncomputable def fun126 : Fun := ⟨[0, 1, 3, 4], [], [], 2, s126.1, [.tmp 4], 2⟩
theorem ok126 : FnM Tryz.prog 126 fun126 := SC.okM s126 rfl (fn := Tryz.f126) (by kernel_rfl) (by kernel_rfl)
noncomputable def s136 : SC (Tryz.f136.body.getD .skip) := SC.mk' (by simp only [Tryz.f136, go_sem]; rfl)
noncomputable def fun136 : Fun := ⟨[0, 1, 2, 9, 8, 26, 32, 6, 7], [], [], 3, s136.1, [.tmp 6, .tmp 7], 0⟩
theorem ok136 : FnM Tryz.prog 136 fun136 := SC.okM s136 rfl (fn := Tryz.f136) (by kernel_rfl) (by kernel_rfl)
noncomputable def s139 : SC (Tryz.f139.body.getD .skip) := SC.mk' (by simp only [Tryz.f139, go_sem]; rfl)
noncomputable def fun139 : Fun := ⟨[0], [0], [], 0, s139.1, [.cell 0 true 4], 0⟩
theorem ok139 : FnM Tryz.prog 139 fun139 := SC.okM s139 rfl (fn := Tryz.f139) (by kernel_rfl) (by kernel_rfl)
noncomputable def s145 : SC (Tryz.f145.body.getD .skip) := SC.mk' (by simp only [Tryz.f145, go_sem]; rfl)
noncomputable def fun145 : Fun := ⟨[0, 1, 2, 4, 6, 3, 10, 5], [2, 3, 4], [], 2, s145.1, [.cell 4 true 8, .tmp 5], 13⟩
theorem ok145 : FnM Tryz.prog 145 fun145 := SC.okM s145 rfl (fn := Tryz.f145) (by kernel_rfl) (by kernel_rfl)
noncomputable def s146 : SC (Tryz.f146.body.getD .skip) := SC.mk' (by simp only [Tryz.f146, go_sem]; rfl)
noncomputable def fun146 : Fun := ⟨[0, 1, 4], [], [], 2, s146.1, [.tmp 4], 1⟩
theorem ok146 : FnM Tryz.prog 146 fun146 := SC.okM s146 rfl (fn := Tryz.f146) (by kernel_rfl) (by kernel_rfl)
noncomputable def s168 : SC (Tryz.f168.body.getD .skip) := SC.mk' (by simp only [Tryz.f168, go_sem]; rfl)
noncomputable def fun168 : Fun := ⟨[0, 1, 4], [], [], 2, s168.1, [.tmp 4], 2⟩
theorem ok168 : FnM Tryz.prog 168 fun168 := SC.okM s168 rfl (fn := Tryz.f168) (by kernel_rfl) (by kernel_rfl)
noncomputable def s171 : SC (Tryz.f171.body.getD .skip) := SC.mk' (by simp only [Tryz.f171, go_sem]; rfl)
noncomputable def fun171 : Fun := ⟨[0, 1, 3, 7, 11, 2], [1], [], 1, s171.1, [.tmp 2], 7⟩
theorem ok171 : FnM Tryz.prog 171 fun171 := SC.okM s171 rfl (fn := Tryz.f171) (by kernel_rfl) (by kernel_rfl)
noncomputable def s178 : SC (Tryz.f178.body.getD .skip) := SC.mk' (by simp only [Tryz.f178, go_sem]; rfl)
noncomputable def fun178 : Fun := ⟨[0, 1, 8, 5, 7, 9, 16, 4], [], [], 2, s178.1, [.tmp 4], 1⟩
theorem ok178 : FnM Tryz.prog 178 fun178 := SC.okM s178 rfl (fn := Tryz.f178) (by kernel_rfl) (by kernel_rfl)
noncomputable def s181 : SC (Tryz.f181.body.getD .skip) := SC.mk' (by simp only [Tryz.f181, go_sem]; rfl)
noncomputable def fun181 : Fun := ⟨[0, 1, 2, 4, 6, 7, 10, 11, 3, 12, 27, 29, 41, 50, 13, 73, 79, 8, 9], [3, 4, 6, 7, 11, 12], [], 3, s181.1, [.cell 6 true 11, .cell 7 true 63, .tmp 8, .tmp 9], 2⟩
theorem ok181 : FnM Tryz.prog 181 fun181 := SC.okM s181 rfl (fn := Tryz.f181) (by kernel_rfl) (by kernel_rfl)
noncomputable def s194 : SC (Tryz.f194.body.getD .skip) := SC.mk' (by simp only [Tryz.f194, go_sem]; rfl)
noncomputable def fun194 : Fun := ⟨[0, 3, 30, 32, 47, 57, 2], [], [], 1, s194.1, [.tmp 2], 9⟩
theorem ok194 : FnM Tryz.prog 194 fun194 := SC.okM s194 rfl (fn := Tryz.f194) (by kernel_rfl) (by kernel_rfl)
noncomputable def s200 : SC (Tryz.f200.body.getD .skip) := SC.mk' (by simp only [Tryz.f200, go_sem]; rfl)
noncomputable def fun200 : Fun := ⟨[0, 3, 6, 4, 5, 44, 71, 106, 134, 156, 2], [4, 5], [], 1, s200.1, [.tmp 2], 11⟩
theorem ok200 : FnM Tryz.prog 200 fun200 := SC.okM s200 rfl (fn := Tryz.f200) (by kernel_rfl) (by kernel_rfl)
noncomputable def s203 : SC (Tryz.f203.body.getD .skip) := SC.mk' (by simp only [Tryz.f203, go_sem]; rfl)
noncomputable def fun203 : Fun := ⟨[0, 1, 38, 42, 2], [1], [], 1, s203.1, [.tmp 2], 1⟩
theorem ok203 : FnM Tryz.prog 203 fun203 := SC.okM s203 rfl (fn := Tryz.f203) (by kernel_rfl) (by kernel_rfl)
noncomputable def s247 : SC (Tryz.f247.body.getD .skip) := SC.mk' (by simp only [Tryz.f247, go_sem]; rfl)
noncomputable def fun247 : Fun := ⟨[0, 2], [], [], 1, s247.1, [.tmp 2], 1⟩
theorem ok247 : FnM Tryz.prog 247 fun247 := SC.okM s247 rfl (fn := Tryz.f247) (by kernel_rfl) (by kernel_rfl)
noncomputable def s249 : SC (Tryz.f249.body.getD .skip) := SC.mk' (by simp only [Tryz.f249, go_sem]; rfl)
noncomputable def fun249 : Fun := ⟨[0, 1, 2, 3, 4, 6, 11, 5], [2, 3, 4], [], 2, s249.1, [.cell 4 true 3, .tmp 5], 11⟩
theorem ok249 : FnM Tryz.prog 249 fun249 := SC.okM s249 rfl (fn := Tryz.f249) (by kernel_rfl) (by kernel_rfl)
noncomputable def s256 : SC (Tryz.f256.body.getD .skip) := SC.mk' (by simp only [Tryz.f256, go_sem]; rfl)
noncomputable def fun256 : Fun := ⟨[0, 1, 3, 6, 2], [1], [], 1, s256.1, [.tmp 2], 0⟩
theorem ok256 : FnM Tryz.prog 256 fun256 := SC.okM s256 rfl (fn := Tryz.f256) (by kernel_rfl) (by kernel_rfl)
noncomputable def s284 : SC (Tryz.f284.body.getD .skip) := SC.mk' (by simp only [Tryz.f284, go_sem]; rfl)
noncomputable def fun284 : Fun := ⟨[0, 1], [], [], 2, s284.1, [], 0⟩
theorem ok284 : FnM Tryz.prog 284 fun284 := SC.okM s284 rfl (fn := Tryz.f284) (by kernel_rfl) (by kernel_rfl)
noncomputable def s285 : SC (Tryz.f285.body.getD .skip) := SC.mk' (by simp only [Tryz.f285, go_sem]; rfl)
noncomputable def fun285 : Fun := ⟨[0, 1, 2, 4, 14, 5], [2, 4], [], 2, s285.1, [.cell 4 true 4, .tmp 5], 0⟩
theorem ok285 : FnM Tryz.prog 285 fun285 := SC.okM s285 rfl (fn := Tryz.f285) (by kernel_rfl) (by kernel_rfl)
noncomputable def s288 : SC (Tryz.f288.body.getD .skip) := SC.mk' (by simp only [Tryz.f288, go_sem]; rfl)
noncomputable def fun288 : Fun := ⟨[0, 1, 2, 3, 4, 7, 8, 30, 10, 18, 29, 31, 12, 35, 42, 9], [4, 7, 8], [], 4, s288.1, [.cell 8 true 11, .tmp 9], 3⟩
theorem ok288 : FnM Tryz.prog 288 fun288 := SC.okM s288 rfl (fn := Tryz.f288) (by kernel_rfl) (by kernel_rfl)
noncomputable def s289 : SC (Tryz.f289.body.getD .skip) := SC.mk' (by simp only [Tryz.f289, go_sem]; rfl)
noncomputable def fun289 : Fun := ⟨[0, 4, 2], [], [], 1, s289.1, [.tmp 2], 0⟩
theorem ok289 : FnM Tryz.prog 289 fun289 := SC.okM s289 rfl (fn := Tryz.f289) (by kernel_rfl) (by kernel_rfl)
noncomputable def s300 : SC (Tryz.f300.body.getD .skip) := SC.mk' (by simp only [Tryz.f300, go_sem]; rfl)
noncomputable def fun300 : Fun := ⟨[0, 1, 4, 14, 12, 3, 5, 6, 10, 13, 15, 23, 25, 30, 35, 57, 61, 2], [1, 4], [], 1, s300.1, [.tmp 2], 5⟩
theorem ok300 : FnM Tryz.prog 300 fun300 := SC.okM s300 rfl (fn := Tryz.f300) (by kernel_rfl) (by kernel_rfl)
noncomputable def s301 : SC (Tryz.f301.body.getD .skip) := SC.mk' (by simp only [Tryz.f301, go_sem]; rfl)
noncomputable def fun301 : Fun := ⟨[0, 13, 1, 3, 11, 5, 12, 14, 2], [1, 5], [], 1, s301.1, [.tmp 2], 4⟩
theorem ok301 : FnM Tryz.prog 301 fun301 := SC.okM s301 rfl (fn := Tryz.f301) (by kernel_rfl) (by kernel_rfl)
noncomputable def s303 : SC (Tryz.f303.body.getD .skip) := SC.mk' (by simp only [Tryz.f303, go_sem]; rfl)
noncomputable def fun303 : Fun := ⟨[0, 1, 2], [1], [], 1, s303.1, [.tmp 2], 1⟩
theorem ok303 : FnM Tryz.prog 303 fun303 := SC.okM s303 rfl (fn := Tryz.f303) (by kernel_rfl) (by kernel_rfl)
noncomputable def s304 : SC (Tryz.f304.body.getD .skip) := SC.mk' (by simp only [Tryz.f304, go_sem]; rfl)
noncomputable def fun304 : Fun := ⟨[0, 1, 2, 3, 4], [2], [], 2, s304.1, [.tmp 4], 10⟩
theorem ok304 : FnM Tryz.prog 304 fun304 := SC.okM s304 rfl (fn := Tryz.f304) (by kernel_rfl) (by kernel_rfl)
noncomputable def s364 : SC (Tryz.f364.body.getD .skip) := SC.mk' (by simp only [Tryz.f364, go_sem]; rfl)
noncomputable def fun364 : Fun := ⟨[0, 1, 5, 2], [1], [], 1, s364.1, [.tmp 2], 3⟩
theorem ok364 : FnM Tryz.prog 364 fun364 := SC.okM s364 rfl (fn := Tryz.f364) (by kernel_rfl) (by kernel_rfl)
noncomputable def s395 : SC (Tryz.f395.body.getD .skip) := SC.mk' (by simp only [Tryz.f395, go_sem]; rfl)
noncomputable def fun395 : Fun := ⟨[0, 1, 2, 4], [2], [], 2, s395.1, [.tmp 4], 0⟩
theorem ok395 : FnM Tryz.prog 395 fun395 := SC.okM s395 rfl (fn := Tryz.f395) (by kernel_rfl) (by kernel_rfl)
noncomputable def s398 : SC (Tryz.f398.body.getD .skip) := SC.mk' (by simp only [Tryz.f398, go_sem]; rfl)
noncomputable def fun398 : Fun := ⟨[0, 4, 2], [], [], 1, s398.1, [.tmp 2], 0⟩
theorem ok398 : FnM Tryz.prog 398 fun398 := SC.okM s398 rfl (fn := Tryz.f398) (by kernel_rfl) (by kernel_rfl)
noncomputable def s461 : SC (Tryz.f461.body.getD .skip) := SC.mk' (by simp only [Tryz.f461, go_sem]; rfl)
noncomputable def fun461 : Fun := ⟨[0, 1, 2, 6, 3, 8, 9, 16, 25, 7], [3, 6], [], 3, s461.1, [.cell 6 true 11, .tmp 7], 2⟩
theorem ok461 : FnM Tryz.prog 461 fun461 := SC.okM s461 rfl (fn := Tryz.f461) (by kernel_rfl) (by kernel_rfl)
noncomputable def s462 : SC (Tryz.f462.body.getD .skip) := SC.mk' (by simp only [Tryz.f462, go_sem]; rfl)
noncomputable def fun462 : Fun := ⟨[0, 1, 8, 5, 7, 9, 16, 4], [], [], 2, s462.1, [.tmp 4], 6⟩
theorem ok462 : FnM Tryz.prog 462 fun462 := SC.okM s462 rfl (fn := Tryz.f462) (by kernel_rfl) (by kernel_rfl)
end Go.M
