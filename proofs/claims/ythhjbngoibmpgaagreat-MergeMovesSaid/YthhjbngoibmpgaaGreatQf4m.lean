/-
  The codes of functions, as the machine takes them.
  No condition: definitions and lemmas.
-/
import Derived.Test.YthhjbngoibmpgaaGreatQtym
set_option linter.all false
set_option maxRecDepth 100000
set_option maxHeartbeats 4000000
namespace Go.M
open Go Go.Proofs
open Go.Eng (SOp SOper SCode sizeP aggP zerosOf bytesP zeroVal stripCode stripOps stripOper strip stripParts kindsOf)

noncomputable def s9 : SC (Tryz.f9.body.getD .skip) := SC.mk' (by simp only [Tryz.f9, go_sem]; rfl)
noncomputable def fun9 : Fun := ⟨[0, 8, 5, 4, 10, 11, 12, 15, 18, 3, 6, 7, 16, 9, 51, 58, 14, 82, 88, 17, 108, 121, 125, 2], [4, 5, 8, 11, 12], [31, 96], 1, s9.1, [.tmp 2], 1495⟩
theorem ok9 : FnM Tryz.prog 9 fun9 := SC.okM s9 rfl (fn := Tryz.f9) (by kernel_rfl) (by kernel_rfl)
noncomputable def s43 : SC (Tryz.f43.body.getD .skip) := SC.mk' (by simp only [Tryz.f43, go_sem]; rfl)
noncomputable def fun43 : Fun := ⟨[0, 1, 2], [1], [], 1, s43.1, [.tmp 2], 325⟩
theorem ok43 : FnM Tryz.prog 43 fun43 := SC.okM s43 rfl (fn := Tryz.f43) (by kernel_rfl) (by kernel_rfl)
noncomputable def s61 : SC (Tryz.f61.body.getD .skip) := SC.mk' (by simp only [Tryz.f61, go_sem]; rfl)
noncomputable def fun61 : Fun := ⟨[0, 1, 2], [1, 2], [], 1, s61.1, [.cell 2 true 6], 0⟩
theorem ok61 : FnM Tryz.prog 61 fun61 := SC.okM s61 rfl (fn := Tryz.f61) (by kernel_rfl) (by kernel_rfl)
noncomputable def s62 : SC (Tryz.f62.body.getD .skip) := SC.mk' (by simp only [Tryz.f62, go_sem]; rfl)
noncomputable def fun62 : Fun := ⟨[0, 1, 2, 3, 8, 9, 11, 12, 13, 4, 5, 24, 10], [4, 5, 8, 9, 11, 12], [], 4, s62.1, [.cell 8 true 11, .cell 9 true 26, .tmp 10], 780⟩
theorem ok62 : FnM Tryz.prog 62 fun62 := SC.okM s62 rfl (fn := Tryz.f62) (by kernel_rfl) (by kernel_rfl)
noncomputable def s71 : SC (Tryz.f71.body.getD .skip) := SC.mk' (by simp only [Tryz.f71, go_sem]; rfl)
noncomputable def fun71 : Fun := ⟨[0, 1, 4], [], [], 2, s71.1, [.tmp 4], 65⟩
theorem ok71 : FnM Tryz.prog 71 fun71 := SC.okM s71 rfl (fn := Tryz.f71) (by kernel_rfl) (by kernel_rfl)
noncomputable def s83 : SC (Tryz.f83.body.getD .skip) := SC.mk' (by simp only [Tryz.f83, go_sem]; rfl)
noncomputable def fun83 : Fun := ⟨[0, 1, 2, 8, 6, 11, 4, 7, 10, 9, 30, 61, 5], [2, 4, 6, 7, 8], [66], 2, s83.1, [.cell 4 true 23, .tmp 5], 1040⟩
theorem ok83 : FnM Tryz.prog 83 fun83 := SC.okM s83 rfl (fn := Tryz.f83) (by kernel_rfl) (by kernel_rfl)
noncomputable def s84 : SC (Tryz.f84.body.getD .skip) := SC.mk' (by simp only [Tryz.f84, go_sem]; rfl)
noncomputable def fun84 : Fun := ⟨[0, 1, 5, 2, 10, 20, 4], [2], [], 2, s84.1, [.tmp 4], 0⟩
theorem ok84 : FnM Tryz.prog 84 fun84 := SC.okM s84 rfl (fn := Tryz.f84) (by kernel_rfl) (by kernel_rfl)
noncomputable def s101 : SC (Tryz.f101.body.getD .skip) := SC.mk' (by simp only [Tryz.f101, go_sem]; rfl)
noncomputable def fun101 : Fun := ⟨[0, 1, 2, 4, 6, 13], [2, 4, 5], [], 2, s101.1, [.cell 4 true 63], 1235⟩
theorem ok101 : FnM Tryz.prog 101 fun101 := SC.okM s101 rfl (fn := Tryz.f101) (by kernel_rfl) (by kernel_rfl)
noncomputable def s103 : SC (Tryz.f103.body.getD .skip) := SC.mk' (by simp only [Tryz.f103, go_sem]; rfl)
noncomputable def fun103 : Fun := ⟨[0, 4, 1, 3, 10, 2], [1], [], 1, s103.1, [.tmp 2], 0⟩
theorem ok103 : FnM Tryz.prog 103 fun103 := SC.okM s103 rfl (fn := Tryz.f103) (by kernel_rfl) (by kernel_rfl)
noncomputable def s113 : SC (Tryz.f113.body.getD .skip) := SC.mk' (by simp only [Tryz.f113, go_sem]; rfl)
noncomputable def fun113 : Fun := ⟨[0, 4, 2], [], [], 1, s113.1, [.tmp 2], 0⟩
theorem ok113 : FnM Tryz.prog 113 fun113 := SC.okM s113 rfl (fn := Tryz.f113) (by kernel_rfl) (by kernel_rfl)
noncomputable def s132 : SC (Tryz.f132.body.getD .skip) := SC.mk' (by simp only [Tryz.f132, go_sem]; rfl)
noncomputable def fun132 : Fun := ⟨[0, 3, 31, 2], [], [], 1, s132.1, [.tmp 2], 130⟩
theorem ok132 : FnM Tryz.prog 132 fun132 := SC.okM s132 rfl (fn := Tryz.f132) (by kernel_rfl) (by kernel_rfl)
noncomputable def s133 : SC (Tryz.f133.body.getD .skip) := SC.mk' (by simp only [Tryz.f133, go_sem]; rfl)
noncomputable def fun133 : Fun := ⟨[0, 3, 4, 5, 6, 28, 50, 60, 86, 114, 133, 139, 153, 2], [3], [], 1, s133.1, [.tmp 2], 520⟩
theorem ok133 : FnM Tryz.prog 133 fun133 := SC.okM s133 rfl (fn := Tryz.f133) (by kernel_rfl) (by kernel_rfl)
noncomputable def s142 : SC (Tryz.f142.body.getD .skip) := SC.mk' (by simp only [Tryz.f142, go_sem]; rfl)
noncomputable def fun142 : Fun := ⟨[0, 1, 6, 7, 4, 8, 19, 24, 46, 5], [4, 6], [], 2, s142.1, [.cell 4 true 3, .tmp 5], 0⟩
theorem ok142 : FnM Tryz.prog 142 fun142 := SC.okM s142 rfl (fn := Tryz.f142) (by kernel_rfl) (by kernel_rfl)
noncomputable def s148 : SC (Tryz.f148.body.getD .skip) := SC.mk' (by simp only [Tryz.f148, go_sem]; rfl)
noncomputable def fun148 : Fun := ⟨[0, 1, 2, 6], [], [], 3, s148.1, [.tmp 6], 0⟩
theorem ok148 : FnM Tryz.prog 148 fun148 := SC.okM s148 rfl (fn := Tryz.f148) (by kernel_rfl) (by kernel_rfl)
noncomputable def s163 : SC (Tryz.f163.body.getD .skip) := SC.mk' (by simp only [Tryz.f163, go_sem]; rfl)
noncomputable def fun163 : Fun := ⟨[0, 1, 5, 2], [1], [], 1, s163.1, [.tmp 2], 195⟩
theorem ok163 : FnM Tryz.prog 163 fun163 := SC.okM s163 rfl (fn := Tryz.f163) (by kernel_rfl) (by kernel_rfl)
noncomputable def s171 : SC (Tryz.f171.body.getD .skip) := SC.mk' (by simp only [Tryz.f171, go_sem]; rfl)
noncomputable def fun171 : Fun := ⟨[0, 1, 38, 42, 2], [1], [], 1, s171.1, [.tmp 2], 65⟩
theorem ok171 : FnM Tryz.prog 171 fun171 := SC.okM s171 rfl (fn := Tryz.f171) (by kernel_rfl) (by kernel_rfl)
noncomputable def s180 : SC (Tryz.f180.body.getD .skip) := SC.mk' (by simp only [Tryz.f180, go_sem]; rfl)
noncomputable def fun180 : Fun := ⟨[0, 1, 5, 2], [1], [], 1, s180.1, [.tmp 2], 520⟩
theorem ok180 : FnM Tryz.prog 180 fun180 := SC.okM s180 rfl (fn := Tryz.f180) (by kernel_rfl) (by kernel_rfl)
noncomputable def s190 : SC (Tryz.f190.body.getD .skip) := SC.mk' (by simp only [Tryz.f190, go_sem]; rfl)
noncomputable def fun190 : Fun := ⟨[0, 1, 2, 4, 3, 14, 6, 7, 9, 13, 10, 11, 27, 12, 58, 93, 8], [3, 4, 6, 7, 11, 13], [], 3, s190.1, [.cell 6 true 11, .cell 7 true 26, .tmp 8], 195⟩
theorem ok190 : FnM Tryz.prog 190 fun190 := SC.okM s190 rfl (fn := Tryz.f190) (by kernel_rfl) (by kernel_rfl)
noncomputable def s193 : SC (Tryz.f193.body.getD .skip) := SC.mk' (by simp only [Tryz.f193, go_sem]; rfl)
noncomputable def fun193 : Fun := ⟨[0, 1, 2, 4, 3, 6, 7, 9, 10, 11, 29, 53, 67, 79, 8], [3, 4, 6, 7], [], 3, s193.1, [.cell 6 true 11, .cell 7 true 26, .tmp 8], 520⟩
theorem ok193 : FnM Tryz.prog 193 fun193 := SC.okM s193 rfl (fn := Tryz.f193) (by kernel_rfl) (by kernel_rfl)
noncomputable def s198 : SC (Tryz.f198.body.getD .skip) := SC.mk' (by simp only [Tryz.f198, go_sem]; rfl)
noncomputable def fun198 : Fun := ⟨[0, 1, 2, 3], [2], [], 2, s198.1, [.tmp 3], 0⟩
theorem ok198 : FnM Tryz.prog 198 fun198 := SC.okM s198 rfl (fn := Tryz.f198) (by kernel_rfl) (by kernel_rfl)
noncomputable def s199 : SC (Tryz.f199.body.getD .skip) := SC.mk' (by simp only [Tryz.f199, go_sem]; rfl)
noncomputable def fun199 : Fun := ⟨[0, 1, 11, 4, 41, 7, 9, 48, 10, 12, 3, 5, 36, 40, 42, 6, 47, 49, 51, 59, 2], [1], [], 1, s199.1, [.tmp 2], 195⟩
theorem ok199 : FnM Tryz.prog 199 fun199 := SC.okM s199 rfl (fn := Tryz.f199) (by kernel_rfl) (by kernel_rfl)
noncomputable def s202 : SC (Tryz.f202.body.getD .skip) := SC.mk' (by simp only [Tryz.f202, go_sem]; rfl)
noncomputable def fun202 : Fun := ⟨[0, 1, 2, 6, 3], [1, 2], [], 1, s202.1, [.cell 2 true 5, .tmp 3], 0⟩
theorem ok202 : FnM Tryz.prog 202 fun202 := SC.okM s202 rfl (fn := Tryz.f202) (by kernel_rfl) (by kernel_rfl)
noncomputable def s224 : SC (Tryz.f224.body.getD .skip) := SC.mk' (by simp only [Tryz.f224, go_sem]; rfl)
noncomputable def fun224 : Fun := ⟨[0, 2, 9, 3], [2], [], 1, s224.1, [.cell 2 true 3, .tmp 3], 0⟩
theorem ok224 : FnM Tryz.prog 224 fun224 := SC.okM s224 rfl (fn := Tryz.f224) (by kernel_rfl) (by kernel_rfl)
noncomputable def s242 : SC (Tryz.f242.body.getD .skip) := SC.mk' (by simp only [Tryz.f242, go_sem]; rfl)
noncomputable def fun242 : Fun := ⟨[0, 1, 2, 4], [2], [], 2, s242.1, [.tmp 4], 0⟩
theorem ok242 : FnM Tryz.prog 242 fun242 := SC.okM s242 rfl (fn := Tryz.f242) (by kernel_rfl) (by kernel_rfl)
noncomputable def s267 : SC (Tryz.f267.body.getD .skip) := SC.mk' (by simp only [Tryz.f267, go_sem]; rfl)
noncomputable def fun267 : Fun := ⟨[0, 1, 2, 3, 5, 6, 10, 15, 22, 28, 4], [2, 3], [], 2, s267.1, [.tmp 4], 195⟩
theorem ok267 : FnM Tryz.prog 267 fun267 := SC.okM s267 rfl (fn := Tryz.f267) (by kernel_rfl) (by kernel_rfl)
noncomputable def s268 : SC (Tryz.f268.body.getD .skip) := SC.mk' (by simp only [Tryz.f268, go_sem]; rfl)
noncomputable def fun268 : Fun := ⟨[0, 1, 2, 7, 8, 3, 6, 20], [3, 6, 7], [], 3, s268.1, [.cell 6 true 3], 0⟩
theorem ok268 : FnM Tryz.prog 268 fun268 := SC.okM s268 rfl (fn := Tryz.f268) (by kernel_rfl) (by kernel_rfl)
noncomputable def s275 : SC (Tryz.f275.body.getD .skip) := SC.mk' (by simp only [Tryz.f275, go_sem]; rfl)
noncomputable def fun275 : Fun := ⟨[0, 1, 2, 3, 4, 7, 8, 10, 16, 40, 9], [4, 7, 8], [], 4, s275.1, [.cell 8 true 11, .tmp 9], 130⟩
theorem ok275 : FnM Tryz.prog 275 fun275 := SC.okM s275 rfl (fn := Tryz.f275) (by kernel_rfl) (by kernel_rfl)
noncomputable def s282 : SC (Tryz.f282.body.getD .skip) := SC.mk' (by simp only [Tryz.f282, go_sem]; rfl)
noncomputable def fun282 : Fun := ⟨[0, 1, 5, 2, 11, 21, 4], [2], [], 2, s282.1, [.tmp 4], 0⟩
theorem ok282 : FnM Tryz.prog 282 fun282 := SC.okM s282 rfl (fn := Tryz.f282) (by kernel_rfl) (by kernel_rfl)
noncomputable def s285 : SC (Tryz.f285.body.getD .skip) := SC.mk' (by simp only [Tryz.f285, go_sem]; rfl)
noncomputable def fun285 : Fun := ⟨[0, 1, 2, 4, 3, 6, 7, 9, 20, 37, 54, 58, 8], [3, 4, 6, 7], [], 3, s285.1, [.cell 6 true 11, .cell 7 true 5, .tmp 8], 195⟩
theorem ok285 : FnM Tryz.prog 285 fun285 := SC.okM s285 rfl (fn := Tryz.f285) (by kernel_rfl) (by kernel_rfl)
noncomputable def s292 : SC (Tryz.f292.body.getD .skip) := SC.mk' (by simp only [Tryz.f292, go_sem]; rfl)
noncomputable def fun292 : Fun := ⟨[0, 2], [], [], 1, s292.1, [.tmp 2], 65⟩
theorem ok292 : FnM Tryz.prog 292 fun292 := SC.okM s292 rfl (fn := Tryz.f292) (by kernel_rfl) (by kernel_rfl)
noncomputable def s303 : SC (Tryz.f303.body.getD .skip) := SC.mk' (by simp only [Tryz.f303, go_sem]; rfl)
noncomputable def fun303 : Fun := ⟨[0, 1, 2, 3, 8, 6, 17, 36, 12, 15, 10, 34, 16, 18, 30, 35, 37, 52, 7], [3, 6, 10, 12], [], 3, s303.1, [.cell 6 true 8, .tmp 7], 1040⟩
theorem ok303 : FnM Tryz.prog 303 fun303 := SC.okM s303 rfl (fn := Tryz.f303) (by kernel_rfl) (by kernel_rfl)
noncomputable def s309 : SC (Tryz.f309.body.getD .skip) := SC.mk' (by simp only [Tryz.f309, go_sem]; rfl)
noncomputable def fun309 : Fun := ⟨[0, 1, 7, 3, 6, 8, 4, 2], [1], [], 1, s309.1, [.tmp 2], 65⟩
theorem ok309 : FnM Tryz.prog 309 fun309 := SC.okM s309 rfl (fn := Tryz.f309) (by kernel_rfl) (by kernel_rfl)
noncomputable def s337 : SC (Tryz.f337.body.getD .skip) := SC.mk' (by simp only [Tryz.f337, go_sem]; rfl)
noncomputable def fun337 : Fun := ⟨[0, 4, 2], [], [], 1, s337.1, [.tmp 2], 0⟩
theorem ok337 : FnM Tryz.prog 337 fun337 := SC.okM s337 rfl (fn := Tryz.f337) (by kernel_rfl) (by kernel_rfl)
noncomputable def s348 : SC (Tryz.f348.body.getD .skip) := SC.mk' (by simp only [Tryz.f348, go_sem]; rfl)
noncomputable def fun348 : Fun := ⟨[0, 1, 2, 3, 5, 6, 10, 15, 17, 24, 4], [2, 3], [], 2, s348.1, [.tmp 4], 910⟩
theorem ok348 : FnM Tryz.prog 348 fun348 := SC.okM s348 rfl (fn := Tryz.f348) (by kernel_rfl) (by kernel_rfl)
noncomputable def s360 : SC (Tryz.f360.body.getD .skip) := SC.mk' (by simp only [Tryz.f360, go_sem]; rfl)
noncomputable def fun360 : Fun := ⟨[0, 1, 8, 5, 7, 9, 16, 4], [], [], 2, s360.1, [.tmp 4], 390⟩
theorem ok360 : FnM Tryz.prog 360 fun360 := SC.okM s360 rfl (fn := Tryz.f360) (by kernel_rfl) (by kernel_rfl)
noncomputable def s372 : SC (Tryz.f372.body.getD .skip) := SC.mk' (by simp only [Tryz.f372, go_sem]; rfl)
noncomputable def fun372 : Fun := ⟨[0, 1, 2, 3, 4, 12, 10, 13, 23, 11], [10, 12], [], 5, s372.1, [.cell 10 true 7, .tmp 11], 130⟩
theorem ok372 : FnM Tryz.prog 372 fun372 := SC.okM s372 rfl (fn := Tryz.f372) (by kernel_rfl) (by kernel_rfl)
end Go.M
