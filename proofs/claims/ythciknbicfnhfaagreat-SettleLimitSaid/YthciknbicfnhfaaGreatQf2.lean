/-
  The codes of functions, as the machine takes them.
  No condition: definitions and lemmas.
-/
import Derived.Test.YthciknbicfnhfaaGreatQty
set_option linter.all false
set_option maxRecDepth 100000
set_option maxHeartbeats 4000000
namespace Go.M
open Go Go.Proofs
open Go.Eng (SOp SOper SCode sizeP aggP zerosOf bytesP zeroVal stripCode stripOps stripOper strip stripParts kindsOf)

noncomputable def s8 : SC (Tryz.f8.body.getD .skip) := SC.mk' (by simp only [Tryz.f8, go_sem]; rfl)
noncomputable def fun8 : Fun := ⟨[0, 1, 2, 3, 9, 12, 4, 11, 8, 20, 40], [4, 8, 9], [], 4, s8.1, [.cell 8 true 23], 18⟩
theorem ok8 : FnM Tryz.prog 8 fun8 := SC.okM s8 rfl (fn := Tryz.f8) (by kernel_rfl) (by kernel_rfl)
noncomputable def s10 : SC (Tryz.f10.body.getD .skip) := SC.mk' (by simp only [Tryz.f10, go_sem]; rfl)
noncomputable def fun10 : Fun := ⟨[0, 4, 2, 9, 5, 6, 47, 3], [2, 4], [], 1, s10.1, [.cell 2 true 4, .tmp 3], 3⟩
theorem ok10 : FnM Tryz.prog 10 fun10 := SC.okM s10 rfl (fn := Tryz.f10) (by kernel_rfl) (by kernel_rfl)
noncomputable def s11 : SC (Tryz.f11.body.getD .skip) := SC.mk' (by simp only [Tryz.f11, go_sem]; rfl)
noncomputable def fun11 : Fun := ⟨[0, 1, 2, 5, 15, 35, 4], [2], [], 2, s11.1, [.tmp 4], 2⟩
theorem ok11 : FnM Tryz.prog 11 fun11 := SC.okM s11 rfl (fn := Tryz.f11) (by kernel_rfl) (by kernel_rfl)
noncomputable def s12 : SC (Tryz.f12.body.getD .skip) := SC.mk' (by simp only [Tryz.f12, go_sem]; rfl)
noncomputable def fun12 : Fun := ⟨[0, 1, 5, 2], [1], [], 1, s12.1, [.tmp 2], 8⟩
theorem ok12 : FnM Tryz.prog 12 fun12 := SC.okM s12 rfl (fn := Tryz.f12) (by kernel_rfl) (by kernel_rfl)
noncomputable def s27 : SC (Tryz.f27.body.getD .skip) := SC.mk' (by simp only [Tryz.f27, go_sem]; rfl)
noncomputable def fun27 : Fun := ⟨[0, 1, 3, 6, 9, 7, 8, 5, 10, 11, 4, 12, 31, 36, 59, 64, 69, 88, 93, 105, 108, 139, 142, 152, 161, 2], [1, 6], [], 1, s27.1, [.tmp 2], 1⟩
theorem ok27 : FnM Tryz.prog 27 fun27 := SC.okM s27 rfl (fn := Tryz.f27) (by kernel_rfl) (by kernel_rfl)
noncomputable def s28 : SC (Tryz.f28.body.getD .skip) := SC.mk' (by simp only [Tryz.f28, go_sem]; rfl)
noncomputable def fun28 : Fun := ⟨[0, 1, 3, 7, 11, 2], [1], [], 1, s28.1, [.tmp 2], 7⟩
theorem ok28 : FnM Tryz.prog 28 fun28 := SC.okM s28 rfl (fn := Tryz.f28) (by kernel_rfl) (by kernel_rfl)
noncomputable def s29 : SC (Tryz.f29.body.getD .skip) := SC.mk' (by simp only [Tryz.f29, go_sem]; rfl)
noncomputable def fun29 : Fun := ⟨[0, 4, 1, 3, 9, 18, 2], [1], [], 1, s29.1, [.tmp 2], 0⟩
theorem ok29 : FnM Tryz.prog 29 fun29 := SC.okM s29 rfl (fn := Tryz.f29) (by kernel_rfl) (by kernel_rfl)
noncomputable def s32 : SC (Tryz.f32.body.getD .skip) := SC.mk' (by simp only [Tryz.f32, go_sem]; rfl)
noncomputable def fun32 : Fun := ⟨[0, 1, 5, 2], [1], [], 1, s32.1, [.tmp 2], 3⟩
theorem ok32 : FnM Tryz.prog 32 fun32 := SC.okM s32 rfl (fn := Tryz.f32) (by kernel_rfl) (by kernel_rfl)
noncomputable def s45 : SC (Tryz.f45.body.getD .skip) := SC.mk' (by simp only [Tryz.f45, go_sem]; rfl)
noncomputable def fun45 : Fun := ⟨[0, 1, 2, 9, 8, 27, 33, 6, 7], [], [], 3, s45.1, [.tmp 6, .tmp 7], 0⟩
theorem ok45 : FnM Tryz.prog 45 fun45 := SC.okM s45 rfl (fn := Tryz.f45) (by kernel_rfl) (by kernel_rfl)
noncomputable def s46 : SC (Tryz.f46.body.getD .skip) := SC.mk' (by simp only [Tryz.f46, go_sem]; rfl)
noncomputable def fun46 : Fun := ⟨[0, 2], [], [], 1, s46.1, [.tmp 2], 1⟩
theorem ok46 : FnM Tryz.prog 46 fun46 := SC.okM s46 rfl (fn := Tryz.f46) (by kernel_rfl) (by kernel_rfl)
noncomputable def s48 : SC (Tryz.f48.body.getD .skip) := SC.mk' (by simp only [Tryz.f48, go_sem]; rfl)
noncomputable def fun48 : Fun := ⟨[0, 1, 6, 7, 8, 3, 4, 5, 13, 19, 31, 43, 49, 55, 61, 81, 85, 96, 2], [1], [], 1, s48.1, [.tmp 2], 6⟩
theorem ok48 : FnM Tryz.prog 48 fun48 := SC.okM s48 rfl (fn := Tryz.f48) (by kernel_rfl) (by kernel_rfl)
noncomputable def s50 : SC (Tryz.f50.body.getD .skip) := SC.mk' (by simp only [Tryz.f50, go_sem]; rfl)
noncomputable def fun50 : Fun := ⟨[0, 1, 2, 19, 4, 6, 7, 3, 40, 112, 11, 20, 30, 52, 62, 72, 82, 92, 102, 123, 8, 9], [3, 4, 6, 7], [], 3, s50.1, [.cell 6 true 11, .cell 7 true 63, .tmp 8, .tmp 9], 15⟩
theorem ok50 : FnM Tryz.prog 50 fun50 := SC.okM s50 rfl (fn := Tryz.f50) (by kernel_rfl) (by kernel_rfl)
noncomputable def s65 : SC (Tryz.f65.body.getD .skip) := SC.mk' (by simp only [Tryz.f65, go_sem]; rfl)
noncomputable def fun65 : Fun := ⟨[0, 2, 9, 3], [2], [], 1, s65.1, [.cell 2 true 2, .tmp 3], 0⟩
theorem ok65 : FnM Tryz.prog 65 fun65 := SC.okM s65 rfl (fn := Tryz.f65) (by kernel_rfl) (by kernel_rfl)
noncomputable def s66 : SC (Tryz.f66.body.getD .skip) := SC.mk' (by simp only [Tryz.f66, go_sem]; rfl)
noncomputable def fun66 : Fun := ⟨[0, 1, 2, 6], [], [], 3, s66.1, [.tmp 6], 0⟩
theorem ok66 : FnM Tryz.prog 66 fun66 := SC.okM s66 rfl (fn := Tryz.f66) (by kernel_rfl) (by kernel_rfl)
noncomputable def s68 : SC (Tryz.f68.body.getD .skip) := SC.mk' (by simp only [Tryz.f68, go_sem]; rfl)
noncomputable def fun68 : Fun := ⟨[0, 4, 7, 2, 23, 5, 12, 22, 24, 8, 9, 54, 3], [2, 7], [], 1, s68.1, [.cell 2 true 4, .tmp 3], 3⟩
theorem ok68 : FnM Tryz.prog 68 fun68 := SC.okM s68 rfl (fn := Tryz.f68) (by kernel_rfl) (by kernel_rfl)
noncomputable def s72 : SC (Tryz.f72.body.getD .skip) := SC.mk' (by simp only [Tryz.f72, go_sem]; rfl)
noncomputable def fun72 : Fun := ⟨[0, 1, 2, 3, 11, 8, 9, 12, 4, 5, 22, 10], [4, 5, 8, 9], [], 4, s72.1, [.cell 8 true 11, .cell 9 true 26, .tmp 10], 13⟩
theorem ok72 : FnM Tryz.prog 72 fun72 := SC.okM s72 rfl (fn := Tryz.f72) (by kernel_rfl) (by kernel_rfl)
noncomputable def s74 : SC (Tryz.f74.body.getD .skip) := SC.mk' (by simp only [Tryz.f74, go_sem]; rfl)
noncomputable def fun74 : Fun := ⟨[0, 1, 2, 4], [2], [], 2, s74.1, [.tmp 4], 8⟩
theorem ok74 : FnM Tryz.prog 74 fun74 := SC.okM s74 rfl (fn := Tryz.f74) (by kernel_rfl) (by kernel_rfl)
noncomputable def s76 : SC (Tryz.f76.body.getD .skip) := SC.mk' (by simp only [Tryz.f76, go_sem]; rfl)
noncomputable def fun76 : Fun := ⟨[0, 1, 5, 4, 2, 16, 17, 29, 3], [1, 2], [], 1, s76.1, [.cell 2 true 8, .tmp 3], 10⟩
theorem ok76 : FnM Tryz.prog 76 fun76 := SC.okM s76 rfl (fn := Tryz.f76) (by kernel_rfl) (by kernel_rfl)
noncomputable def s77 : SC (Tryz.f77.body.getD .skip) := SC.mk' (by simp only [Tryz.f77, go_sem]; rfl)
noncomputable def fun77 : Fun := ⟨[0, 1, 2, 3, 4, 29, 7, 27, 10, 24, 28, 30, 6, 51, 61, 67, 5], [2, 3, 4], [], 2, s77.1, [.cell 4 true 26, .tmp 5], 3⟩
theorem ok77 : FnM Tryz.prog 77 fun77 := SC.okM s77 rfl (fn := Tryz.f77) (by kernel_rfl) (by kernel_rfl)
noncomputable def s78 : SC (Tryz.f78.body.getD .skip) := SC.mk' (by simp only [Tryz.f78, go_sem]; rfl)
noncomputable def fun78 : Fun := ⟨[0, 1, 2, 7, 4, 6, 17, 28], [2, 4, 5, 7], [], 2, s78.1, [.cell 4 true 63], 11⟩
theorem ok78 : FnM Tryz.prog 78 fun78 := SC.okM s78 rfl (fn := Tryz.f78) (by kernel_rfl) (by kernel_rfl)
noncomputable def s83 : SC (Tryz.f83.body.getD .skip) := SC.mk' (by simp only [Tryz.f83, go_sem]; rfl)
noncomputable def fun83 : Fun := ⟨[0, 1, 5, 9, 18, 4], [], [], 2, s83.1, [.tmp 4], 0⟩
theorem ok83 : FnM Tryz.prog 83 fun83 := SC.okM s83 rfl (fn := Tryz.f83) (by kernel_rfl) (by kernel_rfl)
noncomputable def s103 : SC (Tryz.f103.body.getD .skip) := SC.mk' (by simp only [Tryz.f103, go_sem]; rfl)
noncomputable def fun103 : Fun := ⟨[0, 1, 2, 40, 8, 38, 20, 32, 39, 41, 10, 6, 7], [], [], 3, s103.1, [.tmp 6, .tmp 7], 0⟩
theorem ok103 : FnM Tryz.prog 103 fun103 := SC.okM s103 rfl (fn := Tryz.f103) (by kernel_rfl) (by kernel_rfl)
noncomputable def s107 : SC (Tryz.f107.body.getD .skip) := SC.mk' (by simp only [Tryz.f107, go_sem]; rfl)
noncomputable def fun107 : Fun := ⟨[0, 4, 1, 10, 5, 2], [1], [], 1, s107.1, [.tmp 2], 0⟩
theorem ok107 : FnM Tryz.prog 107 fun107 := SC.okM s107 rfl (fn := Tryz.f107) (by kernel_rfl) (by kernel_rfl)
noncomputable def s121 : SC (Tryz.f121.body.getD .skip) := SC.mk' (by simp only [Tryz.f121, go_sem]; rfl)
noncomputable def fun121 : Fun := ⟨[0, 1, 4], [], [], 2, s121.1, [.tmp 4], 1⟩
theorem ok121 : FnM Tryz.prog 121 fun121 := SC.okM s121 rfl (fn := Tryz.f121) (by kernel_rfl) (by kernel_rfl)
noncomputable def s123 : SC (Tryz.f123.body.getD .skip) := SC.mk' (by simp only [Tryz.f123, go_sem]; rfl)
noncomputable def fun123 : Fun := ⟨[0, 4, 5, 3, 8, 12, 20, 24, 35, 39, 52, 2], [], [], 1, s123.1, [.tmp 2], 1⟩
theorem ok123 : FnM Tryz.prog 123 fun123 := SC.okM s123 rfl (fn := Tryz.f123) (by kernel_rfl) (by kernel_rfl)
noncomputable def s124 : SC (Tryz.f124.body.getD .skip) := SC.mk' (by simp only [Tryz.f124, go_sem]; rfl)
noncomputable def fun124 : Fun := ⟨[0, 1, 5, 2, 10, 21, 4], [2], [], 2, s124.1, [.tmp 4], 0⟩
theorem ok124 : FnM Tryz.prog 124 fun124 := SC.okM s124 rfl (fn := Tryz.f124) (by kernel_rfl) (by kernel_rfl)
noncomputable def s125 : SC (Tryz.f125.body.getD .skip) := SC.mk' (by simp only [Tryz.f125, go_sem]; rfl)
noncomputable def fun125 : Fun := ⟨[0, 4, 1, 3, 10, 2], [1], [], 1, s125.1, [.tmp 2], 0⟩
theorem ok125 : FnM Tryz.prog 125 fun125 := SC.okM s125 rfl (fn := Tryz.f125) (by kernel_rfl) (by kernel_rfl)
noncomputable def s127 : SC (Tryz.f127.body.getD .skip) := SC.mk' (by simp only [Tryz.f127, go_sem]; rfl)
noncomputable def fun127 : Fun := ⟨[0, 1, 2, 6, 7, 11, 15, 4, 5], [2], [], 2, s127.1, [.tmp 4, .tmp 5], 0⟩
theorem ok127 : FnM Tryz.prog 127 fun127 := SC.okM s127 rfl (fn := Tryz.f127) (by kernel_rfl) (by kernel_rfl)
noncomputable def s129 : SC (Tryz.f129.body.getD .skip) := SC.mk' (by simp only [Tryz.f129, go_sem]; rfl)
noncomputable def fun129 : Fun := ⟨[0, 1, 2, 3, 7, 4, 6, 36], [3, 4, 6, 7], [26], 3, s129.1, [.cell 6 true 63], 1⟩
theorem ok129 : FnM Tryz.prog 129 fun129 := SC.okM s129 rfl (fn := Tryz.f129) (by kernel_rfl) (by kernel_rfl)
noncomputable def s131 : SC (Tryz.f131.body.getD .skip) := SC.mk' (by simp only [Tryz.f131, go_sem]; rfl)
noncomputable def fun131 : Fun := ⟨[0, 2, 9, 3], [2], [], 1, s131.1, [.cell 2 true 2, .tmp 3], 0⟩
theorem ok131 : FnM Tryz.prog 131 fun131 := SC.okM s131 rfl (fn := Tryz.f131) (by kernel_rfl) (by kernel_rfl)
noncomputable def s133 : SC (Tryz.f133.body.getD .skip) := SC.mk' (by simp only [Tryz.f133, go_sem]; rfl)
noncomputable def fun133 : Fun := ⟨[0, 1, 2, 3, 5, 4, 8], [4, 5, 8], [], 4, s133.1, [.cell 8 true 63], 3⟩
theorem ok133 : FnM Tryz.prog 133 fun133 := SC.okM s133 rfl (fn := Tryz.f133) (by kernel_rfl) (by kernel_rfl)
noncomputable def s135 : SC (Tryz.f135.body.getD .skip) := SC.mk' (by simp only [Tryz.f135, go_sem]; rfl)
noncomputable def fun135 : Fun := ⟨[0, 1, 4, 5, 6, 2, 7, 9, 25, 37, 52, 3], [1, 2, 4, 5, 6, 9], [65, 73, 78, 94, 118], 1, s135.1, [.cell 2 true 63, .tmp 3], 10⟩
theorem ok135 : FnM Tryz.prog 135 fun135 := SC.okM s135 rfl (fn := Tryz.f135) (by kernel_rfl) (by kernel_rfl)
noncomputable def s136 : SC (Tryz.f136.body.getD .skip) := SC.mk' (by simp only [Tryz.f136, go_sem]; rfl)
noncomputable def fun136 : Fun := ⟨[0, 1, 2], [1, 2], [], 1, s136.1, [.cell 2 true 3], 0⟩
theorem ok136 : FnM Tryz.prog 136 fun136 := SC.okM s136 rfl (fn := Tryz.f136) (by kernel_rfl) (by kernel_rfl)
noncomputable def s137 : SC (Tryz.f137.body.getD .skip) := SC.mk' (by simp only [Tryz.f137, go_sem]; rfl)
noncomputable def fun137 : Fun := ⟨[0, 1, 2, 5, 10, 4], [2], [], 2, s137.1, [.tmp 4], 3⟩
theorem ok137 : FnM Tryz.prog 137 fun137 := SC.okM s137 rfl (fn := Tryz.f137) (by kernel_rfl) (by kernel_rfl)
noncomputable def s165 : SC (Tryz.f165.body.getD .skip) := SC.mk' (by simp only [Tryz.f165, go_sem]; rfl)
noncomputable def fun165 : Fun := ⟨[0, 1, 2, 9, 8, 26, 32, 6, 7], [], [], 3, s165.1, [.tmp 6, .tmp 7], 0⟩
theorem ok165 : FnM Tryz.prog 165 fun165 := SC.okM s165 rfl (fn := Tryz.f165) (by kernel_rfl) (by kernel_rfl)
noncomputable def s170 : SC (Tryz.f170.body.getD .skip) := SC.mk' (by simp only [Tryz.f170, go_sem]; rfl)
noncomputable def fun170 : Fun := ⟨[0, 3, 30, 32, 47, 57, 2], [], [], 1, s170.1, [.tmp 2], 9⟩
theorem ok170 : FnM Tryz.prog 170 fun170 := SC.okM s170 rfl (fn := Tryz.f170) (by kernel_rfl) (by kernel_rfl)
noncomputable def s172 : SC (Tryz.f172.body.getD .skip) := SC.mk' (by simp only [Tryz.f172, go_sem]; rfl)
noncomputable def fun172 : Fun := ⟨[0, 3, 4, 5, 6, 28, 44, 64, 95, 2], [5], [72], 1, s172.1, [.tmp 2], 2⟩
theorem ok172 : FnM Tryz.prog 172 fun172 := SC.okM s172 rfl (fn := Tryz.f172) (by kernel_rfl) (by kernel_rfl)
noncomputable def s176 : SC (Tryz.f176.body.getD .skip) := SC.mk' (by simp only [Tryz.f176, go_sem]; rfl)
noncomputable def fun176 : Fun := ⟨[0, 3, 6, 4, 5, 44, 71, 106, 134, 156, 2], [4], [102], 1, s176.1, [.tmp 2], 11⟩
theorem ok176 : FnM Tryz.prog 176 fun176 := SC.okM s176 rfl (fn := Tryz.f176) (by kernel_rfl) (by kernel_rfl)
noncomputable def s179 : SC (Tryz.f179.body.getD .skip) := SC.mk' (by simp only [Tryz.f179, go_sem]; rfl)
noncomputable def fun179 : Fun := ⟨[0, 2], [], [], 1, s179.1, [.tmp 2], 1⟩
theorem ok179 : FnM Tryz.prog 179 fun179 := SC.okM s179 rfl (fn := Tryz.f179) (by kernel_rfl) (by kernel_rfl)
noncomputable def s181 : SC (Tryz.f181.body.getD .skip) := SC.mk' (by simp only [Tryz.f181, go_sem]; rfl)
noncomputable def fun181 : Fun := ⟨[0, 1, 2, 3, 9, 5, 4, 10, 8], [4, 5, 9], [], 4, s181.1, [.tmp 8], 7⟩
theorem ok181 : FnM Tryz.prog 181 fun181 := SC.okM s181 rfl (fn := Tryz.f181) (by kernel_rfl) (by kernel_rfl)
noncomputable def s183 : SC (Tryz.f183.body.getD .skip) := SC.mk' (by simp only [Tryz.f183, go_sem]; rfl)
noncomputable def fun183 : Fun := ⟨[0, 2], [], [], 1, s183.1, [.tmp 2], 1⟩
theorem ok183 : FnM Tryz.prog 183 fun183 := SC.okM s183 rfl (fn := Tryz.f183) (by kernel_rfl) (by kernel_rfl)
noncomputable def s185 : SC (Tryz.f185.body.getD .skip) := SC.mk' (by simp only [Tryz.f185, go_sem]; rfl)
noncomputable def fun185 : Fun := ⟨[0, 1, 2, 3, 4, 6, 11, 5], [2, 3, 4], [], 2, s185.1, [.cell 4 true 3, .tmp 5], 4⟩
theorem ok185 : FnM Tryz.prog 185 fun185 := SC.okM s185 rfl (fn := Tryz.f185) (by kernel_rfl) (by kernel_rfl)
noncomputable def s190 : SC (Tryz.f190.body.getD .skip) := SC.mk' (by simp only [Tryz.f190, go_sem]; rfl)
noncomputable def fun190 : Fun := ⟨[0, 1, 8, 5, 7, 9, 16, 4], [], [], 2, s190.1, [.tmp 4], 0⟩
theorem ok190 : FnM Tryz.prog 190 fun190 := SC.okM s190 rfl (fn := Tryz.f190) (by kernel_rfl) (by kernel_rfl)
noncomputable def s191 : SC (Tryz.f191.body.getD .skip) := SC.mk' (by simp only [Tryz.f191, go_sem]; rfl)
noncomputable def fun191 : Fun := ⟨[0, 1, 2, 4, 5, 13, 3], [1, 2, 4], [], 1, s191.1, [.cell 2 true 26, .tmp 3], 1⟩
theorem ok191 : FnM Tryz.prog 191 fun191 := SC.okM s191 rfl (fn := Tryz.f191) (by kernel_rfl) (by kernel_rfl)
noncomputable def s194 : SC (Tryz.f194.body.getD .skip) := SC.mk' (by simp only [Tryz.f194, go_sem]; rfl)
noncomputable def fun194 : Fun := ⟨[0, 1, 2, 3, 4], [2, 3], [], 2, s194.1, [.tmp 4], 0⟩
theorem ok194 : FnM Tryz.prog 194 fun194 := SC.okM s194 rfl (fn := Tryz.f194) (by kernel_rfl) (by kernel_rfl)
noncomputable def s195 : SC (Tryz.f195.body.getD .skip) := SC.mk' (by simp only [Tryz.f195, go_sem]; rfl)
noncomputable def fun195 : Fun := ⟨[0, 1, 2, 3, 8, 9, 11, 12, 13, 4, 5, 24, 10], [4, 5, 8, 9, 11, 12], [], 4, s195.1, [.cell 8 true 11, .cell 9 true 26, .tmp 10], 12⟩
theorem ok195 : FnM Tryz.prog 195 fun195 := SC.okM s195 rfl (fn := Tryz.f195) (by kernel_rfl) (by kernel_rfl)
noncomputable def s196 : SC (Tryz.f196.body.getD .skip) := SC.mk' (by simp only [Tryz.f196, go_sem]; rfl)
noncomputable def fun196 : Fun := ⟨[0, 1, 2], [1, 2], [], 1, s196.1, [.cell 2 true 6], 0⟩
theorem ok196 : FnM Tryz.prog 196 fun196 := SC.okM s196 rfl (fn := Tryz.f196) (by kernel_rfl) (by kernel_rfl)
noncomputable def s198 : SC (Tryz.f198.body.getD .skip) := SC.mk' (by simp only [Tryz.f198, go_sem]; rfl)
noncomputable def fun198 : Fun := ⟨[0, 1, 2, 3, 6, 35, 7], [3, 6], [], 3, s198.1, [.cell 6 true 2, .tmp 7], 0⟩
theorem ok198 : FnM Tryz.prog 198 fun198 := SC.okM s198 rfl (fn := Tryz.f198) (by kernel_rfl) (by kernel_rfl)
noncomputable def s200 : SC (Tryz.f200.body.getD .skip) := SC.mk' (by simp only [Tryz.f200, go_sem]; rfl)
noncomputable def fun200 : Fun := ⟨[0, 1, 2, 3, 4, 12, 10, 13, 23, 11], [10, 12], [], 5, s200.1, [.cell 10 true 7, .tmp 11], 2⟩
theorem ok200 : FnM Tryz.prog 200 fun200 := SC.okM s200 rfl (fn := Tryz.f200) (by kernel_rfl) (by kernel_rfl)
noncomputable def s219 : SC (Tryz.f219.body.getD .skip) := SC.mk' (by simp only [Tryz.f219, go_sem]; rfl)
noncomputable def fun219 : Fun := ⟨[0, 1, 3, 2, 4, 6, 7, 12, 26, 32, 52, 56, 69, 73, 80, 9, 5], [2, 3, 4, 8], [], 2, s219.1, [.cell 4 true 26, .tmp 5], 3⟩
theorem ok219 : FnM Tryz.prog 219 fun219 := SC.okM s219 rfl (fn := Tryz.f219) (by kernel_rfl) (by kernel_rfl)
noncomputable def s230 : SC (Tryz.f230.body.getD .skip) := SC.mk' (by simp only [Tryz.f230, go_sem]; rfl)
noncomputable def fun230 : Fun := ⟨[0, 1, 2, 3, 4, 8, 12, 13, 11, 14, 15, 20, 35, 45, 9, 10], [4, 8], [55], 4, s230.1, [.cell 8 true 8, .tmp 9, .tmp 10], 8⟩
theorem ok230 : FnM Tryz.prog 230 fun230 := SC.okM s230 rfl (fn := Tryz.f230) (by kernel_rfl) (by kernel_rfl)
noncomputable def s237 : SC (Tryz.f237.body.getD .skip) := SC.mk' (by simp only [Tryz.f237, go_sem]; rfl)
noncomputable def fun237 : Fun := ⟨[0, 1, 2, 4, 6, 7, 10, 3, 20, 11, 30, 38, 8], [3, 4, 6, 7], [], 3, s237.1, [.cell 6 true 11, .cell 7 true 5, .tmp 8], 4⟩
theorem ok237 : FnM Tryz.prog 237 fun237 := SC.okM s237 rfl (fn := Tryz.f237) (by kernel_rfl) (by kernel_rfl)
noncomputable def s241 : SC (Tryz.f241.body.getD .skip) := SC.mk' (by simp only [Tryz.f241, go_sem]; rfl)
noncomputable def fun241 : Fun := ⟨[0, 2], [], [], 1, s241.1, [.tmp 2], 0⟩
theorem ok241 : FnM Tryz.prog 241 fun241 := SC.okM s241 rfl (fn := Tryz.f241) (by kernel_rfl) (by kernel_rfl)
noncomputable def s244 : SC (Tryz.f244.body.getD .skip) := SC.mk' (by simp only [Tryz.f244, go_sem]; rfl)
noncomputable def fun244 : Fun := ⟨[0, 4, 2], [], [], 1, s244.1, [.tmp 2], 0⟩
theorem ok244 : FnM Tryz.prog 244 fun244 := SC.okM s244 rfl (fn := Tryz.f244) (by kernel_rfl) (by kernel_rfl)
noncomputable def s246 : SC (Tryz.f246.body.getD .skip) := SC.mk' (by simp only [Tryz.f246, go_sem]; rfl)
noncomputable def fun246 : Fun := ⟨[0, 1, 2, 4, 9, 5], [2, 4], [], 2, s246.1, [.cell 4 true 8, .tmp 5], 1⟩
theorem ok246 : FnM Tryz.prog 246 fun246 := SC.okM s246 rfl (fn := Tryz.f246) (by kernel_rfl) (by kernel_rfl)
noncomputable def s254 : SC (Tryz.f254.body.getD .skip) := SC.mk' (by simp only [Tryz.f254, go_sem]; rfl)
noncomputable def fun254 : Fun := ⟨[0, 1, 3, 8, 4, 61, 5, 6, 59, 9, 40, 45, 56, 60, 62, 68, 81, 2], [1, 8], [], 1, s254.1, [.tmp 2], 2⟩
theorem ok254 : FnM Tryz.prog 254 fun254 := SC.okM s254 rfl (fn := Tryz.f254) (by kernel_rfl) (by kernel_rfl)
noncomputable def s255 : SC (Tryz.f255.body.getD .skip) := SC.mk' (by simp only [Tryz.f255, go_sem]; rfl)
noncomputable def fun255 : Fun := ⟨[0, 1, 4, 14, 12, 3, 5, 6, 10, 13, 15, 23, 25, 30, 35, 57, 61, 2], [1, 4], [], 1, s255.1, [.tmp 2], 5⟩
theorem ok255 : FnM Tryz.prog 255 fun255 := SC.okM s255 rfl (fn := Tryz.f255) (by kernel_rfl) (by kernel_rfl)
noncomputable def s262 : SC (Tryz.f262.body.getD .skip) := SC.mk' (by simp only [Tryz.f262, go_sem]; rfl)
noncomputable def fun262 : Fun := ⟨[0, 1, 2, 4, 5, 7, 8, 11, 15, 9, 26, 10, 37, 6], [2, 4, 5], [44], 2, s262.1, [.cell 4 true 2, .cell 5 true 7, .tmp 6], 7⟩
theorem ok262 : FnM Tryz.prog 262 fun262 := SC.okM s262 rfl (fn := Tryz.f262) (by kernel_rfl) (by kernel_rfl)
noncomputable def s263 : SC (Tryz.f263.body.getD .skip) := SC.mk' (by simp only [Tryz.f263, go_sem]; rfl)
noncomputable def fun263 : Fun := ⟨[0, 1, 2, 3, 5, 6, 10, 15, 17, 24, 4], [2, 3], [], 2, s263.1, [.tmp 4], 3⟩
theorem ok263 : FnM Tryz.prog 263 fun263 := SC.okM s263 rfl (fn := Tryz.f263) (by kernel_rfl) (by kernel_rfl)
noncomputable def s268 : SC (Tryz.f268.body.getD .skip) := SC.mk' (by simp only [Tryz.f268, go_sem]; rfl)
noncomputable def fun268 : Fun := ⟨[0, 4, 2], [], [], 1, s268.1, [.tmp 2], 0⟩
theorem ok268 : FnM Tryz.prog 268 fun268 := SC.okM s268 rfl (fn := Tryz.f268) (by kernel_rfl) (by kernel_rfl)
noncomputable def s269 : SC (Tryz.f269.body.getD .skip) := SC.mk' (by simp only [Tryz.f269, go_sem]; rfl)
noncomputable def fun269 : Fun := ⟨[0, 1, 2, 4, 5], [2], [], 2, s269.1, [.tmp 4, .tmp 5], 4⟩
theorem ok269 : FnM Tryz.prog 269 fun269 := SC.okM s269 rfl (fn := Tryz.f269) (by kernel_rfl) (by kernel_rfl)
noncomputable def s273 : SC (Tryz.f273.body.getD .skip) := SC.mk' (by simp only [Tryz.f273, go_sem]; rfl)
noncomputable def fun273 : Fun := ⟨[0, 1, 2, 6, 3], [1, 2], [], 1, s273.1, [.cell 2 true 5, .tmp 3], 0⟩
theorem ok273 : FnM Tryz.prog 273 fun273 := SC.okM s273 rfl (fn := Tryz.f273) (by kernel_rfl) (by kernel_rfl)
noncomputable def s274 : SC (Tryz.f274.body.getD .skip) := SC.mk' (by simp only [Tryz.f274, go_sem]; rfl)
noncomputable def fun274 : Fun := ⟨[0, 1, 2, 3, 5, 4, 8, 9, 20, 12, 14, 17, 11, 13, 15, 16, 18, 21, 40, 46, 52, 61, 69, 87, 93, 102, 110, 119, 138, 10], [4, 5, 8, 9, 11, 12, 14, 16, 17], [], 4, s274.1, [.cell 8 true 11, .cell 9 true 26, .tmp 10], 11⟩
theorem ok274 : FnM Tryz.prog 274 fun274 := SC.okM s274 rfl (fn := Tryz.f274) (by kernel_rfl) (by kernel_rfl)
noncomputable def s275 : SC (Tryz.f275.body.getD .skip) := SC.mk' (by simp only [Tryz.f275, go_sem]; rfl)
noncomputable def fun275 : Fun := ⟨[0, 1, 2, 3, 4, 6, 11, 5], [2, 3, 4], [18], 2, s275.1, [.cell 4 true 3, .tmp 5], 4⟩
theorem ok275 : FnM Tryz.prog 275 fun275 := SC.okM s275 rfl (fn := Tryz.f275) (by kernel_rfl) (by kernel_rfl)
noncomputable def s276 : SC (Tryz.f276.body.getD .skip) := SC.mk' (by simp only [Tryz.f276, go_sem]; rfl)
noncomputable def fun276 : Fun := ⟨[0, 4, 2, 12, 17, 47, 3], [2], [], 1, s276.1, [.cell 2 true 5, .tmp 3], 0⟩
theorem ok276 : FnM Tryz.prog 276 fun276 := SC.okM s276 rfl (fn := Tryz.f276) (by kernel_rfl) (by kernel_rfl)
noncomputable def s278 : SC (Tryz.f278.body.getD .skip) := SC.mk' (by simp only [Tryz.f278, go_sem]; rfl)
noncomputable def fun278 : Fun := ⟨[0, 1, 2, 3, 4, 5, 11, 6, 15, 28, 34, 10], [5, 6], [], 5, s278.1, [.tmp 10], 9⟩
theorem ok278 : FnM Tryz.prog 278 fun278 := SC.okM s278 rfl (fn := Tryz.f278) (by kernel_rfl) (by kernel_rfl)
noncomputable def s288 : SC (Tryz.f288.body.getD .skip) := SC.mk' (by simp only [Tryz.f288, go_sem]; rfl)
noncomputable def fun288 : Fun := ⟨[0, 1, 2, 4], [2, 4], [], 2, s288.1, [.cell 4 true 26], 0⟩
theorem ok288 : FnM Tryz.prog 288 fun288 := SC.okM s288 rfl (fn := Tryz.f288) (by kernel_rfl) (by kernel_rfl)
noncomputable def s293 : SC (Tryz.f293.body.getD .skip) := SC.mk' (by simp only [Tryz.f293, go_sem]; rfl)
noncomputable def fun293 : Fun := ⟨[0, 2], [], [], 1, s293.1, [.tmp 2], 0⟩
theorem ok293 : FnM Tryz.prog 293 fun293 := SC.okM s293 rfl (fn := Tryz.f293) (by kernel_rfl) (by kernel_rfl)
noncomputable def s300 : SC (Tryz.f300.body.getD .skip) := SC.mk' (by simp only [Tryz.f300, go_sem]; rfl)
noncomputable def fun300 : Fun := ⟨[0, 1, 2, 4, 3, 6, 7, 10, 21, 9, 38, 42, 53, 55, 8], [3, 4, 6, 7], [], 3, s300.1, [.cell 6 true 11, .cell 7 true 5, .tmp 8], 3⟩
theorem ok300 : FnM Tryz.prog 300 fun300 := SC.okM s300 rfl (fn := Tryz.f300) (by kernel_rfl) (by kernel_rfl)
noncomputable def s303 : SC (Tryz.f303.body.getD .skip) := SC.mk' (by simp only [Tryz.f303, go_sem]; rfl)
noncomputable def fun303 : Fun := ⟨[0, 1, 3], [], [], 2, s303.1, [.tmp 3], 0⟩
theorem ok303 : FnM Tryz.prog 303 fun303 := SC.okM s303 rfl (fn := Tryz.f303) (by kernel_rfl) (by kernel_rfl)
noncomputable def s306 : SC (Tryz.f306.body.getD .skip) := SC.mk' (by simp only [Tryz.f306, go_sem]; rfl)
noncomputable def fun306 : Fun := ⟨[0, 1, 2, 6], [], [], 3, s306.1, [.tmp 6], 0⟩
theorem ok306 : FnM Tryz.prog 306 fun306 := SC.okM s306 rfl (fn := Tryz.f306) (by kernel_rfl) (by kernel_rfl)
noncomputable def s323 : SC (Tryz.f323.body.getD .skip) := SC.mk' (by simp only [Tryz.f323, go_sem]; rfl)
noncomputable def fun323 : Fun := ⟨[0, 1, 2, 3, 4], [2], [], 2, s323.1, [.tmp 4], 2⟩
theorem ok323 : FnM Tryz.prog 323 fun323 := SC.okM s323 rfl (fn := Tryz.f323) (by kernel_rfl) (by kernel_rfl)
noncomputable def s326 : SC (Tryz.f326.body.getD .skip) := SC.mk' (by simp only [Tryz.f326, go_sem]; rfl)
noncomputable def fun326 : Fun := ⟨[0, 1, 6, 5, 11, 12, 13, 16, 19, 4], [], [], 2, s326.1, [.tmp 4], 1⟩
theorem ok326 : FnM Tryz.prog 326 fun326 := SC.okM s326 rfl (fn := Tryz.f326) (by kernel_rfl) (by kernel_rfl)
noncomputable def s329 : SC (Tryz.f329.body.getD .skip) := SC.mk' (by simp only [Tryz.f329, go_sem]; rfl)
noncomputable def fun329 : Fun := ⟨[0, 1, 2], [1], [], 1, s329.1, [.tmp 2], 0⟩
theorem ok329 : FnM Tryz.prog 329 fun329 := SC.okM s329 rfl (fn := Tryz.f329) (by kernel_rfl) (by kernel_rfl)
noncomputable def s330 : SC (Tryz.f330.body.getD .skip) := SC.mk' (by simp only [Tryz.f330, go_sem]; rfl)
noncomputable def fun330 : Fun := ⟨[0, 1, 5, 15, 4], [], [], 2, s330.1, [.tmp 4], 4⟩
theorem ok330 : FnM Tryz.prog 330 fun330 := SC.okM s330 rfl (fn := Tryz.f330) (by kernel_rfl) (by kernel_rfl)
noncomputable def s332 : SC (Tryz.f332.body.getD .skip) := SC.mk' (by simp only [Tryz.f332, go_sem]; rfl)
noncomputable def fun332 : Fun := ⟨[0, 1, 6, 3, 5, 2, 12, 24, 4], [2, 3], [], 2, s332.1, [.tmp 4], 0⟩
theorem ok332 : FnM Tryz.prog 332 fun332 := SC.okM s332 rfl (fn := Tryz.f332) (by kernel_rfl) (by kernel_rfl)
noncomputable def s333 : SC (Tryz.f333.body.getD .skip) := SC.mk' (by simp only [Tryz.f333, go_sem]; rfl)
noncomputable def fun333 : Fun := ⟨[0, 1, 2, 4, 3, 14, 6, 7, 9, 13, 10, 11, 27, 12, 58, 93, 8], [3, 4, 6, 7, 11, 13], [36, 66], 3, s333.1, [.cell 6 true 11, .cell 7 true 26, .tmp 8], 3⟩
theorem ok333 : FnM Tryz.prog 333 fun333 := SC.okM s333 rfl (fn := Tryz.f333) (by kernel_rfl) (by kernel_rfl)
noncomputable def s335 : SC (Tryz.f335.body.getD .skip) := SC.mk' (by simp only [Tryz.f335, go_sem]; rfl)
noncomputable def fun335 : Fun := ⟨[0, 1, 2, 4, 23, 6, 8, 3, 10, 25, 30, 37, 42, 47, 7], [3, 4, 6], [], 3, s335.1, [.cell 6 true 4, .tmp 7], 1⟩
theorem ok335 : FnM Tryz.prog 335 fun335 := SC.okM s335 rfl (fn := Tryz.f335) (by kernel_rfl) (by kernel_rfl)
noncomputable def s344 : SC (Tryz.f344.body.getD .skip) := SC.mk' (by simp only [Tryz.f344, go_sem]; rfl)
noncomputable def fun344 : Fun := ⟨[0, 1, 2, 3, 9, 5, 4, 23, 10, 8], [4, 5, 9], [], 4, s344.1, [.tmp 8], 8⟩
theorem ok344 : FnM Tryz.prog 344 fun344 := SC.okM s344 rfl (fn := Tryz.f344) (by kernel_rfl) (by kernel_rfl)
noncomputable def s347 : SC (Tryz.f347.body.getD .skip) := SC.mk' (by simp only [Tryz.f347, go_sem]; rfl)
noncomputable def fun347 : Fun := ⟨[0, 1, 2, 4, 5, 13, 3], [1, 2, 4], [], 1, s347.1, [.cell 2 true 26, .tmp 3], 1⟩
theorem ok347 : FnM Tryz.prog 347 fun347 := SC.okM s347 rfl (fn := Tryz.f347) (by kernel_rfl) (by kernel_rfl)
noncomputable def s349 : SC (Tryz.f349.body.getD .skip) := SC.mk' (by simp only [Tryz.f349, go_sem]; rfl)
noncomputable def fun349 : Fun := ⟨[0, 1, 5, 21, 4], [], [], 2, s349.1, [.tmp 4], 3⟩
theorem ok349 : FnM Tryz.prog 349 fun349 := SC.okM s349 rfl (fn := Tryz.f349) (by kernel_rfl) (by kernel_rfl)
noncomputable def s358 : SC (Tryz.f358.body.getD .skip) := SC.mk' (by simp only [Tryz.f358, go_sem]; rfl)
noncomputable def fun358 : Fun := ⟨[0, 1, 8, 5, 7, 9, 16, 4], [], [], 2, s358.1, [.tmp 4], 6⟩
theorem ok358 : FnM Tryz.prog 358 fun358 := SC.okM s358 rfl (fn := Tryz.f358) (by kernel_rfl) (by kernel_rfl)
noncomputable def s363 : SC (Tryz.f363.body.getD .skip) := SC.mk' (by simp only [Tryz.f363, go_sem]; rfl)
noncomputable def fun363 : Fun := ⟨[0, 1, 2, 6], [], [], 3, s363.1, [.tmp 6], 0⟩
theorem ok363 : FnM Tryz.prog 363 fun363 := SC.okM s363 rfl (fn := Tryz.f363) (by kernel_rfl) (by kernel_rfl)
noncomputable def s365 : SC (Tryz.f365.body.getD .skip) := SC.mk' (by simp only [Tryz.f365, go_sem]; rfl)
noncomputable def fun365 : Fun := ⟨[0, 1, 2], [1], [], 1, s365.1, [.tmp 2], 1⟩
theorem ok365 : FnM Tryz.prog 365 fun365 := SC.okM s365 rfl (fn := Tryz.f365) (by kernel_rfl) (by kernel_rfl)
noncomputable def s368 : SC (Tryz.f368.body.getD .skip) := SC.mk' (by simp only [Tryz.f368, go_sem]; rfl)
noncomputable def fun368 : Fun := ⟨[0, 1, 2, 16, 7, 6], [], [], 3, s368.1, [.tmp 6], 0⟩
theorem ok368 : FnM Tryz.prog 368 fun368 := SC.okM s368 rfl (fn := Tryz.f368) (by kernel_rfl) (by kernel_rfl)
noncomputable def s370 : SC (Tryz.f370.body.getD .skip) := SC.mk' (by simp only [Tryz.f370, go_sem]; rfl)
noncomputable def fun370 : Fun := ⟨[0, 1, 2, 3], [2], [], 2, s370.1, [.tmp 3], 0⟩
theorem ok370 : FnM Tryz.prog 370 fun370 := SC.okM s370 rfl (fn := Tryz.f370) (by kernel_rfl) (by kernel_rfl)
noncomputable def s372 : SC (Tryz.f372.body.getD .skip) := SC.mk' (by simp only [Tryz.f372, go_sem]; rfl)
noncomputable def fun372 : Fun := ⟨[0, 1, 8, 5, 7, 9, 16, 4], [], [], 2, s372.1, [.tmp 4], 2⟩
theorem ok372 : FnM Tryz.prog 372 fun372 := SC.okM s372 rfl (fn := Tryz.f372) (by kernel_rfl) (by kernel_rfl)
noncomputable def s373 : SC (Tryz.f373.body.getD .skip) := SC.mk' (by simp only [Tryz.f373, go_sem]; rfl)
noncomputable def fun373 : Fun := ⟨[0, 1, 2, 3], [2], [], 2, s373.1, [.tmp 3], 0⟩
theorem ok373 : FnM Tryz.prog 373 fun373 := SC.okM s373 rfl (fn := Tryz.f373) (by kernel_rfl) (by kernel_rfl)
noncomputable def s374 : SC (Tryz.f374.body.getD .skip) := SC.mk' (by simp only [Tryz.f374, go_sem]; rfl)
noncomputable def fun374 : Fun := ⟨[0, 1, 4, 11, 23, 30], [], [], 2, s374.1, [], 4⟩
theorem ok374 : FnM Tryz.prog 374 fun374 := SC.okM s374 rfl (fn := Tryz.f374) (by kernel_rfl) (by kernel_rfl)
noncomputable def s385 : SC (Tryz.f385.body.getD .skip) := SC.mk' (by simp only [Tryz.f385, go_sem]; rfl)
noncomputable def fun385 : Fun := ⟨[0, 1, 5, 2, 11, 21, 4], [2], [], 2, s385.1, [.tmp 4], 0⟩
theorem ok385 : FnM Tryz.prog 385 fun385 := SC.okM s385 rfl (fn := Tryz.f385) (by kernel_rfl) (by kernel_rfl)
noncomputable def s387 : SC (Tryz.f387.body.getD .skip) := SC.mk' (by simp only [Tryz.f387, go_sem]; rfl)
noncomputable def fun387 : Fun := ⟨[0, 1, 6, 5, 16, 39, 4], [], [], 2, s387.1, [.tmp 4], 2⟩
theorem ok387 : FnM Tryz.prog 387 fun387 := SC.okM s387 rfl (fn := Tryz.f387) (by kernel_rfl) (by kernel_rfl)
noncomputable def s394 : SC (Tryz.f394.body.getD .skip) := SC.mk' (by simp only [Tryz.f394, go_sem]; rfl)
noncomputable def fun394 : Fun := ⟨[0, 1, 2, 6, 16, 4, 5], [2], [], 2, s394.1, [.tmp 4, .tmp 5], 0⟩
theorem ok394 : FnM Tryz.prog 394 fun394 := SC.okM s394 rfl (fn := Tryz.f394) (by kernel_rfl) (by kernel_rfl)
noncomputable def s399 : SC (Tryz.f399.body.getD .skip) := SC.mk' (by simp only [Tryz.f399, go_sem]; rfl)
noncomputable def fun399 : Fun := ⟨[0, 2], [], [], 1, s399.1, [.tmp 2], 0⟩
theorem ok399 : FnM Tryz.prog 399 fun399 := SC.okM s399 rfl (fn := Tryz.f399) (by kernel_rfl) (by kernel_rfl)
end Go.M
