/-
  The codes of functions, as the machine takes them.
  No condition: definitions and lemmas.
-/
import Derived.Test.YthciknbicfnhfaaGreatQty
set_option linter.all false
set_option maxRecDepth 100000
set_option maxHeartbeats 4000000
namespace Go.M
open Go Go.Proofs
open Go.Eng (SOp SOper SCode sizeP aggP zerosOf bytesP zeroVal stripCode stripOps stripOper strip stripParts kindsOf)

noncomputable def s7 : SC (Tryz.f7.body.getD .skip) := SC.mk' (by simp only [Tryz.f7, go_sem]; rfl)
noncomputable def fun7 : Fun := ⟨[0, 1, 2, 6], [6], [], 3, s7.1, [.cell 6 true 8], 0⟩
theorem ok7 : FnM Tryz.prog 7 fun7 := SC.okM s7 rfl (fn := Tryz.f7) (by kernel_rfl) (by kernel_rfl)
noncomputable def s9 : SC (Tryz.f9.body.getD .skip) := SC.mk' (by simp only [Tryz.f9, go_sem]; rfl)
noncomputable def fun9 : Fun := ⟨[0, 1, 2, 3, 12, 15, 4, 17, 8, 14, 16, 5, 6, 33, 18, 19, 53, 9, 10, 11], [4, 5, 6, 8, 12, 16, 17], [], 4, s9.1, [.cell 8 true 11, .tmp 9, .tmp 10, .tmp 11], 16⟩
theorem ok9 : FnM Tryz.prog 9 fun9 := SC.okM s9 rfl (fn := Tryz.f9) (by kernel_rfl) (by kernel_rfl)
noncomputable def s10 : SC (Tryz.f10.body.getD .skip) := SC.mk' (by simp only [Tryz.f10, go_sem]; rfl)
noncomputable def fun10 : Fun := ⟨[0, 4, 2, 9, 5, 6, 47, 3], [2, 4], [], 1, s10.1, [.cell 2 true 4, .tmp 3], 3⟩
theorem ok10 : FnM Tryz.prog 10 fun10 := SC.okM s10 rfl (fn := Tryz.f10) (by kernel_rfl) (by kernel_rfl)
noncomputable def s12 : SC (Tryz.f12.body.getD .skip) := SC.mk' (by simp only [Tryz.f12, go_sem]; rfl)
noncomputable def fun12 : Fun := ⟨[0, 1, 5, 2], [1], [], 1, s12.1, [.tmp 2], 8⟩
theorem ok12 : FnM Tryz.prog 12 fun12 := SC.okM s12 rfl (fn := Tryz.f12) (by kernel_rfl) (by kernel_rfl)
noncomputable def s14 : SC (Tryz.f14.body.getD .skip) := SC.mk' (by simp only [Tryz.f14, go_sem]; rfl)
noncomputable def fun14 : Fun := ⟨[0, 1, 2, 4, 7, 8, 9, 3, 19, 36, 5, 6], [2, 3, 4, 8], [41], 2, s14.1, [.cell 4 true 23, .tmp 5, .tmp 6], 4⟩
theorem ok14 : FnM Tryz.prog 14 fun14 := SC.okM s14 rfl (fn := Tryz.f14) (by kernel_rfl) (by kernel_rfl)
noncomputable def s22 : SC (Tryz.f22.body.getD .skip) := SC.mk' (by simp only [Tryz.f22, go_sem]; rfl)
noncomputable def fun22 : Fun := ⟨[0, 1, 2, 3, 8, 6, 5, 11, 12, 22, 30, 37, 9], [5, 6, 8, 10], [], 4, s22.1, [.cell 8 true 63, .tmp 9], 3⟩
theorem ok22 : FnM Tryz.prog 22 fun22 := SC.okM s22 rfl (fn := Tryz.f22) (by kernel_rfl) (by kernel_rfl)
noncomputable def s25 : SC (Tryz.f25.body.getD .skip) := SC.mk' (by simp only [Tryz.f25, go_sem]; rfl)
noncomputable def fun25 : Fun := ⟨[0, 1, 4, 42, 2, 3], [1], [], 1, s25.1, [.tmp 2, .tmp 3], 2⟩
theorem ok25 : FnM Tryz.prog 25 fun25 := SC.okM s25 rfl (fn := Tryz.f25) (by kernel_rfl) (by kernel_rfl)
noncomputable def s28 : SC (Tryz.f28.body.getD .skip) := SC.mk' (by simp only [Tryz.f28, go_sem]; rfl)
noncomputable def fun28 : Fun := ⟨[0, 1, 3, 7, 11, 2], [1], [], 1, s28.1, [.tmp 2], 7⟩
theorem ok28 : FnM Tryz.prog 28 fun28 := SC.okM s28 rfl (fn := Tryz.f28) (by kernel_rfl) (by kernel_rfl)
noncomputable def s29 : SC (Tryz.f29.body.getD .skip) := SC.mk' (by simp only [Tryz.f29, go_sem]; rfl)
noncomputable def fun29 : Fun := ⟨[0, 4, 1, 3, 9, 18, 2], [1], [], 1, s29.1, [.tmp 2], 0⟩
theorem ok29 : FnM Tryz.prog 29 fun29 := SC.okM s29 rfl (fn := Tryz.f29) (by kernel_rfl) (by kernel_rfl)
noncomputable def s37 : SC (Tryz.f37.body.getD .skip) := SC.mk' (by simp only [Tryz.f37, go_sem]; rfl)
noncomputable def fun37 : Fun := ⟨[0, 1, 2, 11, 5, 6, 63, 86, 3, 38, 109, 129, 12, 23, 28, 37, 62, 76, 85, 108, 116, 117, 128, 4], [2, 3], [], 2, s37.1, [.tmp 4], 1⟩
theorem ok37 : FnM Tryz.prog 37 fun37 := SC.okM s37 rfl (fn := Tryz.f37) (by kernel_rfl) (by kernel_rfl)
noncomputable def s44 : SC (Tryz.f44.body.getD .skip) := SC.mk' (by simp only [Tryz.f44, go_sem]; rfl)
noncomputable def fun44 : Fun := ⟨[0, 1, 2, 4, 3, 6, 7, 11, 12, 34, 35, 47, 13, 10, 28, 42, 48, 61, 14, 71, 84, 8, 9], [3, 4, 6, 7, 12, 13], [], 3, s44.1, [.cell 6 true 11, .cell 7 true 63, .tmp 8, .tmp 9], 14⟩
theorem ok44 : FnM Tryz.prog 44 fun44 := SC.okM s44 rfl (fn := Tryz.f44) (by kernel_rfl) (by kernel_rfl)
noncomputable def s48 : SC (Tryz.f48.body.getD .skip) := SC.mk' (by simp only [Tryz.f48, go_sem]; rfl)
noncomputable def fun48 : Fun := ⟨[0, 1, 6, 7, 8, 3, 4, 5, 13, 19, 31, 43, 49, 55, 61, 81, 85, 96, 2], [1], [], 1, s48.1, [.tmp 2], 6⟩
theorem ok48 : FnM Tryz.prog 48 fun48 := SC.okM s48 rfl (fn := Tryz.f48) (by kernel_rfl) (by kernel_rfl)
noncomputable def s52 : SC (Tryz.f52.body.getD .skip) := SC.mk' (by simp only [Tryz.f52, go_sem]; rfl)
noncomputable def fun52 : Fun := ⟨[0, 1, 4, 3, 8, 2], [1], [], 1, s52.1, [.tmp 2], 0⟩
theorem ok52 : FnM Tryz.prog 52 fun52 := SC.okM s52 rfl (fn := Tryz.f52) (by kernel_rfl) (by kernel_rfl)
noncomputable def s61 : SC (Tryz.f61.body.getD .skip) := SC.mk' (by simp only [Tryz.f61, go_sem]; rfl)
noncomputable def fun61 : Fun := ⟨[0, 1, 2, 6], [], [], 3, s61.1, [.tmp 6], 0⟩
theorem ok61 : FnM Tryz.prog 61 fun61 := SC.okM s61 rfl (fn := Tryz.f61) (by kernel_rfl) (by kernel_rfl)
noncomputable def s65 : SC (Tryz.f65.body.getD .skip) := SC.mk' (by simp only [Tryz.f65, go_sem]; rfl)
noncomputable def fun65 : Fun := ⟨[0, 2, 9, 3], [2], [], 1, s65.1, [.cell 2 true 2, .tmp 3], 0⟩
theorem ok65 : FnM Tryz.prog 65 fun65 := SC.okM s65 rfl (fn := Tryz.f65) (by kernel_rfl) (by kernel_rfl)
noncomputable def s67 : SC (Tryz.f67.body.getD .skip) := SC.mk' (by simp only [Tryz.f67, go_sem]; rfl)
noncomputable def fun67 : Fun := ⟨[0, 5, 1, 6, 8, 10, 2], [1], [], 1, s67.1, [.tmp 2], 0⟩
theorem ok67 : FnM Tryz.prog 67 fun67 := SC.okM s67 rfl (fn := Tryz.f67) (by kernel_rfl) (by kernel_rfl)
noncomputable def s68 : SC (Tryz.f68.body.getD .skip) := SC.mk' (by simp only [Tryz.f68, go_sem]; rfl)
noncomputable def fun68 : Fun := ⟨[0, 4, 7, 2, 23, 5, 12, 22, 24, 8, 9, 54, 3], [2, 7], [], 1, s68.1, [.cell 2 true 4, .tmp 3], 3⟩
theorem ok68 : FnM Tryz.prog 68 fun68 := SC.okM s68 rfl (fn := Tryz.f68) (by kernel_rfl) (by kernel_rfl)
noncomputable def s72 : SC (Tryz.f72.body.getD .skip) := SC.mk' (by simp only [Tryz.f72, go_sem]; rfl)
noncomputable def fun72 : Fun := ⟨[0, 1, 2, 3, 11, 8, 9, 12, 4, 5, 22, 10], [4, 5, 8, 9], [], 4, s72.1, [.cell 8 true 11, .cell 9 true 26, .tmp 10], 13⟩
theorem ok72 : FnM Tryz.prog 72 fun72 := SC.okM s72 rfl (fn := Tryz.f72) (by kernel_rfl) (by kernel_rfl)
noncomputable def s76 : SC (Tryz.f76.body.getD .skip) := SC.mk' (by simp only [Tryz.f76, go_sem]; rfl)
noncomputable def fun76 : Fun := ⟨[0, 1, 5, 4, 2, 16, 17, 29, 3], [1, 2], [], 1, s76.1, [.cell 2 true 8, .tmp 3], 10⟩
theorem ok76 : FnM Tryz.prog 76 fun76 := SC.okM s76 rfl (fn := Tryz.f76) (by kernel_rfl) (by kernel_rfl)
noncomputable def s78 : SC (Tryz.f78.body.getD .skip) := SC.mk' (by simp only [Tryz.f78, go_sem]; rfl)
noncomputable def fun78 : Fun := ⟨[0, 1, 2, 7, 4, 6, 17, 28], [2, 4, 5, 7], [], 2, s78.1, [.cell 4 true 63], 11⟩
theorem ok78 : FnM Tryz.prog 78 fun78 := SC.okM s78 rfl (fn := Tryz.f78) (by kernel_rfl) (by kernel_rfl)
noncomputable def s85 : SC (Tryz.f85.body.getD .skip) := SC.mk' (by simp only [Tryz.f85, go_sem]; rfl)
noncomputable def fun85 : Fun := ⟨[0, 1, 2, 4, 6, 7, 3, 15, 32, 11, 10, 12, 14, 18, 19, 136, 24, 33, 43, 58, 13, 72, 80, 95, 16, 17, 115, 122, 20, 132, 137, 146, 8, 9], [3, 4, 6, 7, 11, 12, 15, 19], [52], 3, s85.1, [.cell 6 true 11, .cell 7 true 63, .tmp 8, .tmp 9], 14⟩
theorem ok85 : FnM Tryz.prog 85 fun85 := SC.okM s85 rfl (fn := Tryz.f85) (by kernel_rfl) (by kernel_rfl)
noncomputable def s103 : SC (Tryz.f103.body.getD .skip) := SC.mk' (by simp only [Tryz.f103, go_sem]; rfl)
noncomputable def fun103 : Fun := ⟨[0, 1, 2, 40, 8, 38, 20, 32, 39, 41, 10, 6, 7], [], [], 3, s103.1, [.tmp 6, .tmp 7], 0⟩
theorem ok103 : FnM Tryz.prog 103 fun103 := SC.okM s103 rfl (fn := Tryz.f103) (by kernel_rfl) (by kernel_rfl)
noncomputable def s115 : SC (Tryz.f115.body.getD .skip) := SC.mk' (by simp only [Tryz.f115, go_sem]; rfl)
noncomputable def fun115 : Fun := ⟨[0, 3, 4, 5, 35, 2], [], [], 1, s115.1, [.tmp 2], 12⟩
theorem ok115 : FnM Tryz.prog 115 fun115 := SC.okM s115 rfl (fn := Tryz.f115) (by kernel_rfl) (by kernel_rfl)
noncomputable def s117 : SC (Tryz.f117.body.getD .skip) := SC.mk' (by simp only [Tryz.f117, go_sem]; rfl)
noncomputable def fun117 : Fun := ⟨[0, 1, 2, 6], [], [], 3, s117.1, [.tmp 6], 0⟩
theorem ok117 : FnM Tryz.prog 117 fun117 := SC.okM s117 rfl (fn := Tryz.f117) (by kernel_rfl) (by kernel_rfl)
noncomputable def s119 : SC (Tryz.f119.body.getD .skip) := SC.mk' (by simp only [Tryz.f119, go_sem]; rfl)
noncomputable def fun119 : Fun := ⟨[0, 1, 2, 3, 4, 5, 10, 13, 14, 6, 12, 25, 33, 44, 49, 67, 11], [5, 6, 10, 13], [], 5, s119.1, [.cell 10 true 8, .tmp 11], 9⟩
theorem ok119 : FnM Tryz.prog 119 fun119 := SC.okM s119 rfl (fn := Tryz.f119) (by kernel_rfl) (by kernel_rfl)
noncomputable def s122 : SC (Tryz.f122.body.getD .skip) := SC.mk' (by simp only [Tryz.f122, go_sem]; rfl)
noncomputable def fun122 : Fun := ⟨[0, 1, 2, 8, 3], [1, 2], [], 1, s122.1, [.cell 2 true 26, .tmp 3], 2⟩
theorem ok122 : FnM Tryz.prog 122 fun122 := SC.okM s122 rfl (fn := Tryz.f122) (by kernel_rfl) (by kernel_rfl)
noncomputable def s124 : SC (Tryz.f124.body.getD .skip) := SC.mk' (by simp only [Tryz.f124, go_sem]; rfl)
noncomputable def fun124 : Fun := ⟨[0, 1, 5, 2, 10, 21, 4], [2], [], 2, s124.1, [.tmp 4], 0⟩
theorem ok124 : FnM Tryz.prog 124 fun124 := SC.okM s124 rfl (fn := Tryz.f124) (by kernel_rfl) (by kernel_rfl)
noncomputable def s133 : SC (Tryz.f133.body.getD .skip) := SC.mk' (by simp only [Tryz.f133, go_sem]; rfl)
noncomputable def fun133 : Fun := ⟨[0, 1, 2, 3, 5, 4, 8], [4, 5, 8], [], 4, s133.1, [.cell 8 true 63], 3⟩
theorem ok133 : FnM Tryz.prog 133 fun133 := SC.okM s133 rfl (fn := Tryz.f133) (by kernel_rfl) (by kernel_rfl)
noncomputable def s136 : SC (Tryz.f136.body.getD .skip) := SC.mk' (by simp only [Tryz.f136, go_sem]; rfl)
noncomputable def fun136 : Fun := ⟨[0, 1, 2], [1, 2], [], 1, s136.1, [.cell 2 true 3], 0⟩
theorem ok136 : FnM Tryz.prog 136 fun136 := SC.okM s136 rfl (fn := Tryz.f136) (by kernel_rfl) (by kernel_rfl)
noncomputable def s141 : SC (Tryz.f141.body.getD .skip) := SC.mk' (by simp only [Tryz.f141, go_sem]; rfl)
noncomputable def fun141 : Fun := ⟨[0, 3, 8, 7, 1, 6, 2, 20, 9], [1, 2, 3, 4, 8], [], 1, s141.1, [.cell 2 true 7], 10⟩
theorem ok141 : FnM Tryz.prog 141 fun141 := SC.okM s141 rfl (fn := Tryz.f141) (by kernel_rfl) (by kernel_rfl)
noncomputable def s144 : SC (Tryz.f144.body.getD .skip) := SC.mk' (by simp only [Tryz.f144, go_sem]; rfl)
noncomputable def fun144 : Fun := ⟨[0, 1, 2, 4], [2], [], 2, s144.1, [.tmp 4], 8⟩
theorem ok144 : FnM Tryz.prog 144 fun144 := SC.okM s144 rfl (fn := Tryz.f144) (by kernel_rfl) (by kernel_rfl)
noncomputable def s165 : SC (Tryz.f165.body.getD .skip) := SC.mk' (by simp only [Tryz.f165, go_sem]; rfl)
noncomputable def fun165 : Fun := ⟨[0, 1, 2, 9, 8, 26, 32, 6, 7], [], [], 3, s165.1, [.tmp 6, .tmp 7], 0⟩
theorem ok165 : FnM Tryz.prog 165 fun165 := SC.okM s165 rfl (fn := Tryz.f165) (by kernel_rfl) (by kernel_rfl)
noncomputable def s169 : SC (Tryz.f169.body.getD .skip) := SC.mk' (by simp only [Tryz.f169, go_sem]; rfl)
noncomputable def fun169 : Fun := ⟨[0, 4, 2], [], [], 1, s169.1, [.tmp 2], 0⟩
theorem ok169 : FnM Tryz.prog 169 fun169 := SC.okM s169 rfl (fn := Tryz.f169) (by kernel_rfl) (by kernel_rfl)
noncomputable def s171 : SC (Tryz.f171.body.getD .skip) := SC.mk' (by simp only [Tryz.f171, go_sem]; rfl)
noncomputable def fun171 : Fun := ⟨[0, 3, 8, 7, 4, 5, 22, 38, 6, 78, 92, 112, 145, 2], [5, 7], [54], 1, s171.1, [.tmp 2], 9⟩
theorem ok171 : FnM Tryz.prog 171 fun171 := SC.okM s171 rfl (fn := Tryz.f171) (by kernel_rfl) (by kernel_rfl)
noncomputable def s174 : SC (Tryz.f174.body.getD .skip) := SC.mk' (by simp only [Tryz.f174, go_sem]; rfl)
noncomputable def fun174 : Fun := ⟨[0, 3, 4, 5, 6, 28, 50, 60, 86, 114, 133, 139, 153, 2], [3], [], 1, s174.1, [.tmp 2], 8⟩
theorem ok174 : FnM Tryz.prog 174 fun174 := SC.okM s174 rfl (fn := Tryz.f174) (by kernel_rfl) (by kernel_rfl)
noncomputable def s180 : SC (Tryz.f180.body.getD .skip) := SC.mk' (by simp only [Tryz.f180, go_sem]; rfl)
noncomputable def fun180 : Fun := ⟨[0, 2], [], [], 1, s180.1, [.tmp 2], 1⟩
theorem ok180 : FnM Tryz.prog 180 fun180 := SC.okM s180 rfl (fn := Tryz.f180) (by kernel_rfl) (by kernel_rfl)
noncomputable def s182 : SC (Tryz.f182.body.getD .skip) := SC.mk' (by simp only [Tryz.f182, go_sem]; rfl)
noncomputable def fun182 : Fun := ⟨[0, 1, 2, 4, 5, 7, 8, 9, 19, 6], [2, 4, 5, 7, 8], [], 2, s182.1, [.cell 4 true 8, .cell 5 true 7, .tmp 6], 8⟩
theorem ok182 : FnM Tryz.prog 182 fun182 := SC.okM s182 rfl (fn := Tryz.f182) (by kernel_rfl) (by kernel_rfl)
noncomputable def s183 : SC (Tryz.f183.body.getD .skip) := SC.mk' (by simp only [Tryz.f183, go_sem]; rfl)
noncomputable def fun183 : Fun := ⟨[0, 2], [], [], 1, s183.1, [.tmp 2], 1⟩
theorem ok183 : FnM Tryz.prog 183 fun183 := SC.okM s183 rfl (fn := Tryz.f183) (by kernel_rfl) (by kernel_rfl)
noncomputable def s184 : SC (Tryz.f184.body.getD .skip) := SC.mk' (by simp only [Tryz.f184, go_sem]; rfl)
noncomputable def fun184 : Fun := ⟨[0, 1, 2, 4], [2], [], 2, s184.1, [.tmp 4], 0⟩
theorem ok184 : FnM Tryz.prog 184 fun184 := SC.okM s184 rfl (fn := Tryz.f184) (by kernel_rfl) (by kernel_rfl)
noncomputable def s186 : SC (Tryz.f186.body.getD .skip) := SC.mk' (by simp only [Tryz.f186, go_sem]; rfl)
noncomputable def fun186 : Fun := ⟨[0, 1, 2, 3, 4, 6, 11, 5], [2, 3, 4], [], 2, s186.1, [.cell 4 true 3, .tmp 5], 4⟩
theorem ok186 : FnM Tryz.prog 186 fun186 := SC.okM s186 rfl (fn := Tryz.f186) (by kernel_rfl) (by kernel_rfl)
noncomputable def s188 : SC (Tryz.f188.body.getD .skip) := SC.mk' (by simp only [Tryz.f188, go_sem]; rfl)
noncomputable def fun188 : Fun := ⟨[0, 1, 2], [1, 2], [], 1, s188.1, [.cell 2 true 8], 1⟩
theorem ok188 : FnM Tryz.prog 188 fun188 := SC.okM s188 rfl (fn := Tryz.f188) (by kernel_rfl) (by kernel_rfl)
noncomputable def s190 : SC (Tryz.f190.body.getD .skip) := SC.mk' (by simp only [Tryz.f190, go_sem]; rfl)
noncomputable def fun190 : Fun := ⟨[0, 1, 8, 5, 7, 9, 16, 4], [], [], 2, s190.1, [.tmp 4], 0⟩
theorem ok190 : FnM Tryz.prog 190 fun190 := SC.okM s190 rfl (fn := Tryz.f190) (by kernel_rfl) (by kernel_rfl)
noncomputable def s195 : SC (Tryz.f195.body.getD .skip) := SC.mk' (by simp only [Tryz.f195, go_sem]; rfl)
noncomputable def fun195 : Fun := ⟨[0, 1, 2, 3, 8, 9, 11, 12, 13, 4, 5, 24, 10], [4, 5, 8, 9, 11, 12], [], 4, s195.1, [.cell 8 true 11, .cell 9 true 26, .tmp 10], 12⟩
theorem ok195 : FnM Tryz.prog 195 fun195 := SC.okM s195 rfl (fn := Tryz.f195) (by kernel_rfl) (by kernel_rfl)
noncomputable def s198 : SC (Tryz.f198.body.getD .skip) := SC.mk' (by simp only [Tryz.f198, go_sem]; rfl)
noncomputable def fun198 : Fun := ⟨[0, 1, 2, 3, 6, 35, 7], [3, 6], [], 3, s198.1, [.cell 6 true 2, .tmp 7], 0⟩
theorem ok198 : FnM Tryz.prog 198 fun198 := SC.okM s198 rfl (fn := Tryz.f198) (by kernel_rfl) (by kernel_rfl)
noncomputable def s200 : SC (Tryz.f200.body.getD .skip) := SC.mk' (by simp only [Tryz.f200, go_sem]; rfl)
noncomputable def fun200 : Fun := ⟨[0, 1, 2, 3, 4, 12, 10, 13, 23, 11], [10, 12], [], 5, s200.1, [.cell 10 true 7, .tmp 11], 2⟩
theorem ok200 : FnM Tryz.prog 200 fun200 := SC.okM s200 rfl (fn := Tryz.f200) (by kernel_rfl) (by kernel_rfl)
noncomputable def s219 : SC (Tryz.f219.body.getD .skip) := SC.mk' (by simp only [Tryz.f219, go_sem]; rfl)
noncomputable def fun219 : Fun := ⟨[0, 1, 3, 2, 4, 6, 7, 12, 26, 32, 52, 56, 69, 73, 80, 9, 5], [2, 3, 4, 8], [], 2, s219.1, [.cell 4 true 26, .tmp 5], 3⟩
theorem ok219 : FnM Tryz.prog 219 fun219 := SC.okM s219 rfl (fn := Tryz.f219) (by kernel_rfl) (by kernel_rfl)
noncomputable def s236 : SC (Tryz.f236.body.getD .skip) := SC.mk' (by simp only [Tryz.f236, go_sem]; rfl)
noncomputable def fun236 : Fun := ⟨[0, 1, 9, 7, 8, 10, 6, 4], [], [], 2, s236.1, [.tmp 4], 0⟩
theorem ok236 : FnM Tryz.prog 236 fun236 := SC.okM s236 rfl (fn := Tryz.f236) (by kernel_rfl) (by kernel_rfl)
noncomputable def s237 : SC (Tryz.f237.body.getD .skip) := SC.mk' (by simp only [Tryz.f237, go_sem]; rfl)
noncomputable def fun237 : Fun := ⟨[0, 1, 2, 4, 6, 7, 10, 3, 20, 11, 30, 38, 8], [3, 4, 6, 7], [], 3, s237.1, [.cell 6 true 11, .cell 7 true 5, .tmp 8], 4⟩
theorem ok237 : FnM Tryz.prog 237 fun237 := SC.okM s237 rfl (fn := Tryz.f237) (by kernel_rfl) (by kernel_rfl)
noncomputable def s238 : SC (Tryz.f238.body.getD .skip) := SC.mk' (by simp only [Tryz.f238, go_sem]; rfl)
noncomputable def fun238 : Fun := ⟨[0, 1, 2], [], [], 1, s238.1, [.tmp 2], 8⟩
theorem ok238 : FnM Tryz.prog 238 fun238 := SC.okM s238 rfl (fn := Tryz.f238) (by kernel_rfl) (by kernel_rfl)
noncomputable def s242 : SC (Tryz.f242.body.getD .skip) := SC.mk' (by simp only [Tryz.f242, go_sem]; rfl)
noncomputable def fun242 : Fun := ⟨[0, 1, 2, 4, 10, 16, 3], [1, 2], [], 1, s242.1, [.cell 2 true 4, .tmp 3], 1⟩
theorem ok242 : FnM Tryz.prog 242 fun242 := SC.okM s242 rfl (fn := Tryz.f242) (by kernel_rfl) (by kernel_rfl)
noncomputable def s248 : SC (Tryz.f248.body.getD .skip) := SC.mk' (by simp only [Tryz.f248, go_sem]; rfl)
noncomputable def fun248 : Fun := ⟨[0, 1, 2, 4, 6, 11, 3, 8, 9, 13, 22, 33, 44, 48, 52, 7], [3, 4, 6], [], 3, s248.1, [.cell 6 true 4, .tmp 7], 1⟩
theorem ok248 : FnM Tryz.prog 248 fun248 := SC.okM s248 rfl (fn := Tryz.f248) (by kernel_rfl) (by kernel_rfl)
noncomputable def s255 : SC (Tryz.f255.body.getD .skip) := SC.mk' (by simp only [Tryz.f255, go_sem]; rfl)
noncomputable def fun255 : Fun := ⟨[0, 1, 4, 14, 12, 3, 5, 6, 10, 13, 15, 23, 25, 30, 35, 57, 61, 2], [1, 4], [], 1, s255.1, [.tmp 2], 5⟩
theorem ok255 : FnM Tryz.prog 255 fun255 := SC.okM s255 rfl (fn := Tryz.f255) (by kernel_rfl) (by kernel_rfl)
noncomputable def s256 : SC (Tryz.f256.body.getD .skip) := SC.mk' (by simp only [Tryz.f256, go_sem]; rfl)
noncomputable def fun256 : Fun := ⟨[0, 1, 2], [1], [], 1, s256.1, [.tmp 2], 0⟩
theorem ok256 : FnM Tryz.prog 256 fun256 := SC.okM s256 rfl (fn := Tryz.f256) (by kernel_rfl) (by kernel_rfl)
noncomputable def s262 : SC (Tryz.f262.body.getD .skip) := SC.mk' (by simp only [Tryz.f262, go_sem]; rfl)
noncomputable def fun262 : Fun := ⟨[0, 1, 2, 4, 5, 7, 8, 11, 15, 9, 26, 10, 37, 6], [2, 4, 5], [44], 2, s262.1, [.cell 4 true 2, .cell 5 true 7, .tmp 6], 7⟩
theorem ok262 : FnM Tryz.prog 262 fun262 := SC.okM s262 rfl (fn := Tryz.f262) (by kernel_rfl) (by kernel_rfl)
noncomputable def s266 : SC (Tryz.f266.body.getD .skip) := SC.mk' (by simp only [Tryz.f266, go_sem]; rfl)
noncomputable def fun266 : Fun := ⟨[0, 4, 2], [], [], 1, s266.1, [.tmp 2], 0⟩
theorem ok266 : FnM Tryz.prog 266 fun266 := SC.okM s266 rfl (fn := Tryz.f266) (by kernel_rfl) (by kernel_rfl)
noncomputable def s269 : SC (Tryz.f269.body.getD .skip) := SC.mk' (by simp only [Tryz.f269, go_sem]; rfl)
noncomputable def fun269 : Fun := ⟨[0, 1, 2, 4, 5], [2], [], 2, s269.1, [.tmp 4, .tmp 5], 4⟩
theorem ok269 : FnM Tryz.prog 269 fun269 := SC.okM s269 rfl (fn := Tryz.f269) (by kernel_rfl) (by kernel_rfl)
noncomputable def s270 : SC (Tryz.f270.body.getD .skip) := SC.mk' (by simp only [Tryz.f270, go_sem]; rfl)
noncomputable def fun270 : Fun := ⟨[0, 2], [], [], 1, s270.1, [.tmp 2], 0⟩
theorem ok270 : FnM Tryz.prog 270 fun270 := SC.okM s270 rfl (fn := Tryz.f270) (by kernel_rfl) (by kernel_rfl)
noncomputable def s271 : SC (Tryz.f271.body.getD .skip) := SC.mk' (by simp only [Tryz.f271, go_sem]; rfl)
noncomputable def fun271 : Fun := ⟨[0, 1, 6, 7, 11, 17, 4, 5], [], [], 2, s271.1, [.tmp 4, .tmp 5], 6⟩
theorem ok271 : FnM Tryz.prog 271 fun271 := SC.okM s271 rfl (fn := Tryz.f271) (by kernel_rfl) (by kernel_rfl)
noncomputable def s272 : SC (Tryz.f272.body.getD .skip) := SC.mk' (by simp only [Tryz.f272, go_sem]; rfl)
noncomputable def fun272 : Fun := ⟨[0, 1, 3, 6, 10, 12, 16, 20, 4, 5], [3], [27], 2, s272.1, [.tmp 4, .tmp 5], 5⟩
theorem ok272 : FnM Tryz.prog 272 fun272 := SC.okM s272 rfl (fn := Tryz.f272) (by kernel_rfl) (by kernel_rfl)
noncomputable def s275 : SC (Tryz.f275.body.getD .skip) := SC.mk' (by simp only [Tryz.f275, go_sem]; rfl)
noncomputable def fun275 : Fun := ⟨[0, 1, 2, 3, 4, 6, 11, 5], [2, 3, 4], [18], 2, s275.1, [.cell 4 true 3, .tmp 5], 4⟩
theorem ok275 : FnM Tryz.prog 275 fun275 := SC.okM s275 rfl (fn := Tryz.f275) (by kernel_rfl) (by kernel_rfl)
noncomputable def s276 : SC (Tryz.f276.body.getD .skip) := SC.mk' (by simp only [Tryz.f276, go_sem]; rfl)
noncomputable def fun276 : Fun := ⟨[0, 4, 2, 12, 17, 47, 3], [2], [], 1, s276.1, [.cell 2 true 5, .tmp 3], 0⟩
theorem ok276 : FnM Tryz.prog 276 fun276 := SC.okM s276 rfl (fn := Tryz.f276) (by kernel_rfl) (by kernel_rfl)
noncomputable def s277 : SC (Tryz.f277.body.getD .skip) := SC.mk' (by simp only [Tryz.f277, go_sem]; rfl)
noncomputable def fun277 : Fun := ⟨[0, 1, 2, 3, 4, 5, 6, 12, 18, 19, 16, 17, 15, 24, 52, 57, 70, 80, 13, 14], [6, 12, 19], [], 6, s277.1, [.cell 12 true 8, .tmp 13, .tmp 14], 8⟩
theorem ok277 : FnM Tryz.prog 277 fun277 := SC.okM s277 rfl (fn := Tryz.f277) (by kernel_rfl) (by kernel_rfl)
noncomputable def s283 : SC (Tryz.f283.body.getD .skip) := SC.mk' (by simp only [Tryz.f283, go_sem]; rfl)
noncomputable def fun283 : Fun := ⟨[0, 2], [], [], 1, s283.1, [.tmp 2], 0⟩
theorem ok283 : FnM Tryz.prog 283 fun283 := SC.okM s283 rfl (fn := Tryz.f283) (by kernel_rfl) (by kernel_rfl)
noncomputable def s289 : SC (Tryz.f289.body.getD .skip) := SC.mk' (by simp only [Tryz.f289, go_sem]; rfl)
noncomputable def fun289 : Fun := ⟨[0, 1, 3, 2, 4, 5, 11, 7, 6], [2, 3, 4, 5], [], 2, s289.1, [.cell 4 true 11, .cell 5 true 26, .tmp 6], 2⟩
theorem ok289 : FnM Tryz.prog 289 fun289 := SC.okM s289 rfl (fn := Tryz.f289) (by kernel_rfl) (by kernel_rfl)
noncomputable def s297 : SC (Tryz.f297.body.getD .skip) := SC.mk' (by simp only [Tryz.f297, go_sem]; rfl)
noncomputable def fun297 : Fun := ⟨[0, 1, 5, 2], [1], [], 1, s297.1, [.tmp 2], 3⟩
theorem ok297 : FnM Tryz.prog 297 fun297 := SC.okM s297 rfl (fn := Tryz.f297) (by kernel_rfl) (by kernel_rfl)
noncomputable def s300 : SC (Tryz.f300.body.getD .skip) := SC.mk' (by simp only [Tryz.f300, go_sem]; rfl)
noncomputable def fun300 : Fun := ⟨[0, 1, 2, 4, 3, 6, 7, 10, 21, 9, 38, 42, 53, 55, 8], [3, 4, 6, 7], [], 3, s300.1, [.cell 6 true 11, .cell 7 true 5, .tmp 8], 3⟩
theorem ok300 : FnM Tryz.prog 300 fun300 := SC.okM s300 rfl (fn := Tryz.f300) (by kernel_rfl) (by kernel_rfl)
noncomputable def s308 : SC (Tryz.f308.body.getD .skip) := SC.mk' (by simp only [Tryz.f308, go_sem]; rfl)
noncomputable def fun308 : Fun := ⟨[0, 1, 2, 6, 7, 11, 15, 4, 5], [2], [], 2, s308.1, [.tmp 4, .tmp 5], 0⟩
theorem ok308 : FnM Tryz.prog 308 fun308 := SC.okM s308 rfl (fn := Tryz.f308) (by kernel_rfl) (by kernel_rfl)
noncomputable def s311 : SC (Tryz.f311.body.getD .skip) := SC.mk' (by simp only [Tryz.f311, go_sem]; rfl)
noncomputable def fun311 : Fun := ⟨[0, 4, 2], [], [], 1, s311.1, [.tmp 2], 0⟩
theorem ok311 : FnM Tryz.prog 311 fun311 := SC.okM s311 rfl (fn := Tryz.f311) (by kernel_rfl) (by kernel_rfl)
noncomputable def s322 : SC (Tryz.f322.body.getD .skip) := SC.mk' (by simp only [Tryz.f322, go_sem]; rfl)
noncomputable def fun322 : Fun := ⟨[0, 1, 4], [], [], 2, s322.1, [.tmp 4], 1⟩
theorem ok322 : FnM Tryz.prog 322 fun322 := SC.okM s322 rfl (fn := Tryz.f322) (by kernel_rfl) (by kernel_rfl)
noncomputable def s323 : SC (Tryz.f323.body.getD .skip) := SC.mk' (by simp only [Tryz.f323, go_sem]; rfl)
noncomputable def fun323 : Fun := ⟨[0, 1, 2, 3, 4], [2], [], 2, s323.1, [.tmp 4], 2⟩
theorem ok323 : FnM Tryz.prog 323 fun323 := SC.okM s323 rfl (fn := Tryz.f323) (by kernel_rfl) (by kernel_rfl)
noncomputable def s325 : SC (Tryz.f325.body.getD .skip) := SC.mk' (by simp only [Tryz.f325, go_sem]; rfl)
noncomputable def fun325 : Fun := ⟨[0, 1, 2, 4], [2], [], 2, s325.1, [.tmp 4], 2⟩
theorem ok325 : FnM Tryz.prog 325 fun325 := SC.okM s325 rfl (fn := Tryz.f325) (by kernel_rfl) (by kernel_rfl)
noncomputable def s326 : SC (Tryz.f326.body.getD .skip) := SC.mk' (by simp only [Tryz.f326, go_sem]; rfl)
noncomputable def fun326 : Fun := ⟨[0, 1, 6, 5, 11, 12, 13, 16, 19, 4], [], [], 2, s326.1, [.tmp 4], 1⟩
theorem ok326 : FnM Tryz.prog 326 fun326 := SC.okM s326 rfl (fn := Tryz.f326) (by kernel_rfl) (by kernel_rfl)
noncomputable def s327 : SC (Tryz.f327.body.getD .skip) := SC.mk' (by simp only [Tryz.f327, go_sem]; rfl)
noncomputable def fun327 : Fun := ⟨[0, 1, 3, 4], [], [], 2, s327.1, [.tmp 4], 3⟩
theorem ok327 : FnM Tryz.prog 327 fun327 := SC.okM s327 rfl (fn := Tryz.f327) (by kernel_rfl) (by kernel_rfl)
noncomputable def s328 : SC (Tryz.f328.body.getD .skip) := SC.mk' (by simp only [Tryz.f328, go_sem]; rfl)
noncomputable def fun328 : Fun := ⟨[0, 1, 6, 5, 16, 29, 4], [], [], 2, s328.1, [.tmp 4], 5⟩
theorem ok328 : FnM Tryz.prog 328 fun328 := SC.okM s328 rfl (fn := Tryz.f328) (by kernel_rfl) (by kernel_rfl)
noncomputable def s330 : SC (Tryz.f330.body.getD .skip) := SC.mk' (by simp only [Tryz.f330, go_sem]; rfl)
noncomputable def fun330 : Fun := ⟨[0, 1, 5, 15, 4], [], [], 2, s330.1, [.tmp 4], 4⟩
theorem ok330 : FnM Tryz.prog 330 fun330 := SC.okM s330 rfl (fn := Tryz.f330) (by kernel_rfl) (by kernel_rfl)
noncomputable def s332 : SC (Tryz.f332.body.getD .skip) := SC.mk' (by simp only [Tryz.f332, go_sem]; rfl)
noncomputable def fun332 : Fun := ⟨[0, 1, 6, 3, 5, 2, 12, 24, 4], [2, 3], [], 2, s332.1, [.tmp 4], 0⟩
theorem ok332 : FnM Tryz.prog 332 fun332 := SC.okM s332 rfl (fn := Tryz.f332) (by kernel_rfl) (by kernel_rfl)
noncomputable def s336 : SC (Tryz.f336.body.getD .skip) := SC.mk' (by simp only [Tryz.f336, go_sem]; rfl)
noncomputable def fun336 : Fun := ⟨[0, 1, 2, 4, 3, 6, 7, 9, 10, 11, 29, 53, 67, 79, 8], [3, 4, 6, 7], [], 3, s336.1, [.cell 6 true 11, .cell 7 true 26, .tmp 8], 8⟩
theorem ok336 : FnM Tryz.prog 336 fun336 := SC.okM s336 rfl (fn := Tryz.f336) (by kernel_rfl) (by kernel_rfl)
noncomputable def s339 : SC (Tryz.f339.body.getD .skip) := SC.mk' (by simp only [Tryz.f339, go_sem]; rfl)
noncomputable def fun339 : Fun := ⟨[0, 1, 2, 3, 5, 6, 10, 15, 22, 28, 4], [2, 3], [], 2, s339.1, [.tmp 4], 3⟩
theorem ok339 : FnM Tryz.prog 339 fun339 := SC.okM s339 rfl (fn := Tryz.f339) (by kernel_rfl) (by kernel_rfl)
noncomputable def s358 : SC (Tryz.f358.body.getD .skip) := SC.mk' (by simp only [Tryz.f358, go_sem]; rfl)
noncomputable def fun358 : Fun := ⟨[0, 1, 8, 5, 7, 9, 16, 4], [], [], 2, s358.1, [.tmp 4], 6⟩
theorem ok358 : FnM Tryz.prog 358 fun358 := SC.okM s358 rfl (fn := Tryz.f358) (by kernel_rfl) (by kernel_rfl)
noncomputable def s364 : SC (Tryz.f364.body.getD .skip) := SC.mk' (by simp only [Tryz.f364, go_sem]; rfl)
noncomputable def fun364 : Fun := ⟨[0, 1, 4], [], [], 2, s364.1, [.tmp 4], 3⟩
theorem ok364 : FnM Tryz.prog 364 fun364 := SC.okM s364 rfl (fn := Tryz.f364) (by kernel_rfl) (by kernel_rfl)
noncomputable def s373 : SC (Tryz.f373.body.getD .skip) := SC.mk' (by simp only [Tryz.f373, go_sem]; rfl)
noncomputable def fun373 : Fun := ⟨[0, 1, 2, 3], [2], [], 2, s373.1, [.tmp 3], 0⟩
theorem ok373 : FnM Tryz.prog 373 fun373 := SC.okM s373 rfl (fn := Tryz.f373) (by kernel_rfl) (by kernel_rfl)
noncomputable def s376 : SC (Tryz.f376.body.getD .skip) := SC.mk' (by simp only [Tryz.f376, go_sem]; rfl)
noncomputable def fun376 : Fun := ⟨[0, 1, 2, 3, 6, 21, 27, 7], [3, 6], [], 3, s376.1, [.cell 6 true 11, .tmp 7], 1⟩
theorem ok376 : FnM Tryz.prog 376 fun376 := SC.okM s376 rfl (fn := Tryz.f376) (by kernel_rfl) (by kernel_rfl)
noncomputable def s380 : SC (Tryz.f380.body.getD .skip) := SC.mk' (by simp only [Tryz.f380, go_sem]; rfl)
noncomputable def fun380 : Fun := ⟨[0, 1, 2, 4, 9, 5], [2, 4], [], 2, s380.1, [.cell 4 true 8, .tmp 5], 1⟩
theorem ok380 : FnM Tryz.prog 380 fun380 := SC.okM s380 rfl (fn := Tryz.f380) (by kernel_rfl) (by kernel_rfl)
noncomputable def s382 : SC (Tryz.f382.body.getD .skip) := SC.mk' (by simp only [Tryz.f382, go_sem]; rfl)
noncomputable def fun382 : Fun := ⟨[0, 1, 2, 3, 4, 8, 7, 10, 11, 17, 23, 39, 9], [4, 7, 8], [], 4, s382.1, [.cell 8 true 11, .tmp 9], 7⟩
theorem ok382 : FnM Tryz.prog 382 fun382 := SC.okM s382 rfl (fn := Tryz.f382) (by kernel_rfl) (by kernel_rfl)
noncomputable def s389 : SC (Tryz.f389.body.getD .skip) := SC.mk' (by simp only [Tryz.f389, go_sem]; rfl)
noncomputable def fun389 : Fun := ⟨[0, 1, 2, 6, 3], [1, 2], [], 1, s389.1, [.cell 2 true 5, .tmp 3], 0⟩
theorem ok389 : FnM Tryz.prog 389 fun389 := SC.okM s389 rfl (fn := Tryz.f389) (by kernel_rfl) (by kernel_rfl)
noncomputable def s400 : SC (Tryz.f400.body.getD .skip) := SC.mk' (by simp only [Tryz.f400, go_sem]; rfl)
noncomputable def fun400 : Fun := ⟨[0, 1, 2, 9, 4], [2], [], 2, s400.1, [.tmp 4], 0⟩
theorem ok400 : FnM Tryz.prog 400 fun400 := SC.okM s400 rfl (fn := Tryz.f400) (by kernel_rfl) (by kernel_rfl)
noncomputable def s401 : SC (Tryz.f401.body.getD .skip) := SC.mk' (by simp only [Tryz.f401, go_sem]; rfl)
noncomputable def fun401 : Fun := ⟨[0, 1, 2, 3, 6, 11], [3, 6], [], 3, s401.1, [.cell 6 true 11], 0⟩
theorem ok401 : FnM Tryz.prog 401 fun401 := SC.okM s401 rfl (fn := Tryz.f401) (by kernel_rfl) (by kernel_rfl)
end Go.M
