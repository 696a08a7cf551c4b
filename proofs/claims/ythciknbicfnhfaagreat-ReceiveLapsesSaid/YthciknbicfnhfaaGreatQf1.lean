/-
  The codes of functions, as the machine takes them.
  No condition: definitions and lemmas.
-/
import Derived.Test.YthciknbicfnhfaaGreatQty
set_option linter.all false
set_option maxRecDepth 100000
set_option maxHeartbeats 4000000
namespace Go.M
open Go Go.Proofs
open Go.Eng (SOp SOper SCode sizeP aggP zerosOf bytesP zeroVal stripCode stripOps stripOper strip stripParts kindsOf)

noncomputable def s7 : SC (Tryz.f7.body.getD .skip) := SC.mk' (by simp only [Tryz.f7, go_sem]; rfl)
noncomputable def fun7 : Fun := ⟨[0, 1, 2, 6], [6], [], 3, s7.1, [.cell 6 true 8], 0⟩
theorem ok7 : FnM Tryz.prog 7 fun7 := SC.okM s7 rfl (fn := Tryz.f7) (by kernel_rfl) (by kernel_rfl)
noncomputable def s11 : SC (Tryz.f11.body.getD .skip) := SC.mk' (by simp only [Tryz.f11, go_sem]; rfl)
noncomputable def fun11 : Fun := ⟨[0, 1, 2, 5, 15, 35, 4], [2], [], 2, s11.1, [.tmp 4], 2⟩
theorem ok11 : FnM Tryz.prog 11 fun11 := SC.okM s11 rfl (fn := Tryz.f11) (by kernel_rfl) (by kernel_rfl)
noncomputable def s12 : SC (Tryz.f12.body.getD .skip) := SC.mk' (by simp only [Tryz.f12, go_sem]; rfl)
noncomputable def fun12 : Fun := ⟨[0, 1, 5, 2], [1], [], 1, s12.1, [.tmp 2], 8⟩
theorem ok12 : FnM Tryz.prog 12 fun12 := SC.okM s12 rfl (fn := Tryz.f12) (by kernel_rfl) (by kernel_rfl)
noncomputable def s15 : SC (Tryz.f15.body.getD .skip) := SC.mk' (by simp only [Tryz.f15, go_sem]; rfl)
noncomputable def fun15 : Fun := ⟨[0, 1, 6, 8, 2, 5, 7, 9, 10, 21, 32, 45, 3, 4], [1, 2, 9], [], 1, s15.1, [.cell 2 true 23, .tmp 3, .tmp 4], 17⟩
theorem ok15 : FnM Tryz.prog 15 fun15 := SC.okM s15 rfl (fn := Tryz.f15) (by kernel_rfl) (by kernel_rfl)
noncomputable def s17 : SC (Tryz.f17.body.getD .skip) := SC.mk' (by simp only [Tryz.f17, go_sem]; rfl)
noncomputable def fun17 : Fun := ⟨[0, 1, 5, 7, 2, 4, 15], [2, 4, 5], [], 2, s17.1, [.cell 4 true 11], 18⟩
theorem ok17 : FnM Tryz.prog 17 fun17 := SC.okM s17 rfl (fn := Tryz.f17) (by kernel_rfl) (by kernel_rfl)
noncomputable def s18 : SC (Tryz.f18.body.getD .skip) := SC.mk' (by simp only [Tryz.f18, go_sem]; rfl)
noncomputable def fun18 : Fun := ⟨[0, 1, 2, 3, 12, 15, 4, 17, 8, 14, 16, 5, 6, 33, 18, 19, 53, 9, 10, 11], [4, 5, 6, 8, 12, 16, 17], [], 4, s18.1, [.cell 8 true 11, .tmp 9, .tmp 10, .tmp 11], 16⟩
theorem ok18 : FnM Tryz.prog 18 fun18 := SC.okM s18 rfl (fn := Tryz.f18) (by kernel_rfl) (by kernel_rfl)
noncomputable def s24 : SC (Tryz.f24.body.getD .skip) := SC.mk' (by simp only [Tryz.f24, go_sem]; rfl)
noncomputable def fun24 : Fun := ⟨[0, 1, 2, 9, 8, 19, 31, 34, 6, 7], [], [], 3, s24.1, [.tmp 6, .tmp 7], 0⟩
theorem ok24 : FnM Tryz.prog 24 fun24 := SC.okM s24 rfl (fn := Tryz.f24) (by kernel_rfl) (by kernel_rfl)
noncomputable def s27 : SC (Tryz.f27.body.getD .skip) := SC.mk' (by simp only [Tryz.f27, go_sem]; rfl)
noncomputable def fun27 : Fun := ⟨[0, 1, 3, 6, 9, 7, 8, 5, 10, 11, 4, 12, 31, 36, 59, 64, 69, 88, 93, 105, 108, 139, 142, 152, 161, 2], [1, 6], [], 1, s27.1, [.tmp 2], 1⟩
theorem ok27 : FnM Tryz.prog 27 fun27 := SC.okM s27 rfl (fn := Tryz.f27) (by kernel_rfl) (by kernel_rfl)
noncomputable def s33 : SC (Tryz.f33.body.getD .skip) := SC.mk' (by simp only [Tryz.f33, go_sem]; rfl)
noncomputable def fun33 : Fun := ⟨[0, 1, 2, 4, 3, 6, 7, 26, 10, 11, 13, 17, 12, 27, 35, 46, 64, 8, 9], [3, 4, 6, 7], [], 3, s33.1, [.cell 6 true 11, .cell 7 true 63, .tmp 8, .tmp 9], 15⟩
theorem ok33 : FnM Tryz.prog 33 fun33 := SC.okM s33 rfl (fn := Tryz.f33) (by kernel_rfl) (by kernel_rfl)
noncomputable def s41 : SC (Tryz.f41.body.getD .skip) := SC.mk' (by simp only [Tryz.f41, go_sem]; rfl)
noncomputable def fun41 : Fun := ⟨[0, 1, 2], [1, 2], [], 1, s41.1, [.cell 2 true 3], 0⟩
theorem ok41 : FnM Tryz.prog 41 fun41 := SC.okM s41 rfl (fn := Tryz.f41) (by kernel_rfl) (by kernel_rfl)
noncomputable def s42 : SC (Tryz.f42.body.getD .skip) := SC.mk' (by simp only [Tryz.f42, go_sem]; rfl)
noncomputable def fun42 : Fun := ⟨[0, 1, 6, 13, 2, 11, 9, 12, 14, 26, 4], [2, 6], [], 2, s42.1, [.tmp 4], 5⟩
theorem ok42 : FnM Tryz.prog 42 fun42 := SC.okM s42 rfl (fn := Tryz.f42) (by kernel_rfl) (by kernel_rfl)
noncomputable def s54 : SC (Tryz.f54.body.getD .skip) := SC.mk' (by simp only [Tryz.f54, go_sem]; rfl)
noncomputable def fun54 : Fun := ⟨[0, 1, 3, 6, 2], [1], [], 1, s54.1, [.tmp 2], 0⟩
theorem ok54 : FnM Tryz.prog 54 fun54 := SC.okM s54 rfl (fn := Tryz.f54) (by kernel_rfl) (by kernel_rfl)
noncomputable def s61 : SC (Tryz.f61.body.getD .skip) := SC.mk' (by simp only [Tryz.f61, go_sem]; rfl)
noncomputable def fun61 : Fun := ⟨[0, 1, 2, 6], [], [], 3, s61.1, [.tmp 6], 0⟩
theorem ok61 : FnM Tryz.prog 61 fun61 := SC.okM s61 rfl (fn := Tryz.f61) (by kernel_rfl) (by kernel_rfl)
noncomputable def s62 : SC (Tryz.f62.body.getD .skip) := SC.mk' (by simp only [Tryz.f62, go_sem]; rfl)
noncomputable def fun62 : Fun := ⟨[0, 1, 6, 7, 4, 8, 19, 24, 46, 5], [4, 6], [], 2, s62.1, [.cell 4 true 3, .tmp 5], 0⟩
theorem ok62 : FnM Tryz.prog 62 fun62 := SC.okM s62 rfl (fn := Tryz.f62) (by kernel_rfl) (by kernel_rfl)
noncomputable def s69 : SC (Tryz.f69.body.getD .skip) := SC.mk' (by simp only [Tryz.f69, go_sem]; rfl)
noncomputable def fun69 : Fun := ⟨[0, 1, 2, 3, 7, 4, 6, 36], [3, 4, 6, 7], [26], 3, s69.1, [.cell 6 true 63], 1⟩
theorem ok69 : FnM Tryz.prog 69 fun69 := SC.okM s69 rfl (fn := Tryz.f69) (by kernel_rfl) (by kernel_rfl)
noncomputable def s70 : SC (Tryz.f70.body.getD .skip) := SC.mk' (by simp only [Tryz.f70, go_sem]; rfl)
noncomputable def fun70 : Fun := ⟨[0, 1, 3, 39, 37, 5, 9, 26, 31, 38, 40, 4, 50, 54, 2], [1, 5], [], 1, s70.1, [.tmp 2], 4⟩
theorem ok70 : FnM Tryz.prog 70 fun70 := SC.okM s70 rfl (fn := Tryz.f70) (by kernel_rfl) (by kernel_rfl)
noncomputable def s72 : SC (Tryz.f72.body.getD .skip) := SC.mk' (by simp only [Tryz.f72, go_sem]; rfl)
noncomputable def fun72 : Fun := ⟨[0, 1, 2, 3, 11, 8, 9, 12, 4, 5, 22, 10], [4, 5, 8, 9], [], 4, s72.1, [.cell 8 true 11, .cell 9 true 26, .tmp 10], 13⟩
theorem ok72 : FnM Tryz.prog 72 fun72 := SC.okM s72 rfl (fn := Tryz.f72) (by kernel_rfl) (by kernel_rfl)
noncomputable def s80 : SC (Tryz.f80.body.getD .skip) := SC.mk' (by simp only [Tryz.f80, go_sem]; rfl)
noncomputable def fun80 : Fun := ⟨[0, 1, 4, 3, 7, 5, 6, 8, 12, 17, 29, 31, 36, 45, 66, 74, 79, 106, 2], [1, 4], [], 1, s80.1, [.tmp 2], 2⟩
theorem ok80 : FnM Tryz.prog 80 fun80 := SC.okM s80 rfl (fn := Tryz.f80) (by kernel_rfl) (by kernel_rfl)
noncomputable def s83 : SC (Tryz.f83.body.getD .skip) := SC.mk' (by simp only [Tryz.f83, go_sem]; rfl)
noncomputable def fun83 : Fun := ⟨[0, 1, 5, 9, 18, 4], [], [], 2, s83.1, [.tmp 4], 0⟩
theorem ok83 : FnM Tryz.prog 83 fun83 := SC.okM s83 rfl (fn := Tryz.f83) (by kernel_rfl) (by kernel_rfl)
noncomputable def s85 : SC (Tryz.f85.body.getD .skip) := SC.mk' (by simp only [Tryz.f85, go_sem]; rfl)
noncomputable def fun85 : Fun := ⟨[0, 1, 2, 4, 6, 7, 3, 15, 32, 11, 10, 12, 14, 18, 19, 136, 24, 33, 43, 58, 13, 72, 80, 95, 16, 17, 115, 122, 20, 132, 137, 146, 8, 9], [3, 4, 6, 7, 11, 12, 15, 19], [52], 3, s85.1, [.cell 6 true 11, .cell 7 true 63, .tmp 8, .tmp 9], 14⟩
theorem ok85 : FnM Tryz.prog 85 fun85 := SC.okM s85 rfl (fn := Tryz.f85) (by kernel_rfl) (by kernel_rfl)
noncomputable def s101 : SC (Tryz.f101.body.getD .skip) := SC.mk' (by simp only [Tryz.f101, go_sem]; rfl)
noncomputable def fun101 : Fun := ⟨[0, 1, 2, 6, 10, 4, 31, 7, 8, 29, 12, 18, 25, 30, 32, 11, 52, 70, 93, 5], [2, 4, 6, 7, 10], [59], 2, s101.1, [.cell 4 true 63, .tmp 5], 13⟩
theorem ok101 : FnM Tryz.prog 101 fun101 := SC.okM s101 rfl (fn := Tryz.f101) (by kernel_rfl) (by kernel_rfl)
noncomputable def s108 : SC (Tryz.f108.body.getD .skip) := SC.mk' (by simp only [Tryz.f108, go_sem]; rfl)
noncomputable def fun108 : Fun := ⟨[0, 5, 8, 3, 6, 7, 9, 27, 2], [5], [], 1, s108.1, [.tmp 2], 0⟩
theorem ok108 : FnM Tryz.prog 108 fun108 := SC.okM s108 rfl (fn := Tryz.f108) (by kernel_rfl) (by kernel_rfl)
noncomputable def s109 : SC (Tryz.f109.body.getD .skip) := SC.mk' (by simp only [Tryz.f109, go_sem]; rfl)
noncomputable def fun109 : Fun := ⟨[0, 1, 4], [], [], 2, s109.1, [.tmp 4], 2⟩
theorem ok109 : FnM Tryz.prog 109 fun109 := SC.okM s109 rfl (fn := Tryz.f109) (by kernel_rfl) (by kernel_rfl)
noncomputable def s112 : SC (Tryz.f112.body.getD .skip) := SC.mk' (by simp only [Tryz.f112, go_sem]; rfl)
noncomputable def fun112 : Fun := ⟨[0, 1, 11, 4, 41, 7, 9, 48, 10, 12, 3, 5, 36, 40, 42, 6, 47, 49, 51, 59, 2], [1], [], 1, s112.1, [.tmp 2], 3⟩
theorem ok112 : FnM Tryz.prog 112 fun112 := SC.okM s112 rfl (fn := Tryz.f112) (by kernel_rfl) (by kernel_rfl)
noncomputable def s113 : SC (Tryz.f113.body.getD .skip) := SC.mk' (by simp only [Tryz.f113, go_sem]; rfl)
noncomputable def fun113 : Fun := ⟨[0, 17, 2, 5, 15, 4, 13, 16, 18, 40, 3], [2], [], 1, s113.1, [.cell 2 true 5, .tmp 3], 1⟩
theorem ok113 : FnM Tryz.prog 113 fun113 := SC.okM s113 rfl (fn := Tryz.f113) (by kernel_rfl) (by kernel_rfl)
noncomputable def s114 : SC (Tryz.f114.body.getD .skip) := SC.mk' (by simp only [Tryz.f114, go_sem]; rfl)
noncomputable def fun114 : Fun := ⟨[0], [0], [], 0, s114.1, [.cell 0 true 4], 0⟩
theorem ok114 : FnM Tryz.prog 114 fun114 := SC.okM s114 rfl (fn := Tryz.f114) (by kernel_rfl) (by kernel_rfl)
noncomputable def s121 : SC (Tryz.f121.body.getD .skip) := SC.mk' (by simp only [Tryz.f121, go_sem]; rfl)
noncomputable def fun121 : Fun := ⟨[0, 1, 4], [], [], 2, s121.1, [.tmp 4], 1⟩
theorem ok121 : FnM Tryz.prog 121 fun121 := SC.okM s121 rfl (fn := Tryz.f121) (by kernel_rfl) (by kernel_rfl)
noncomputable def s122 : SC (Tryz.f122.body.getD .skip) := SC.mk' (by simp only [Tryz.f122, go_sem]; rfl)
noncomputable def fun122 : Fun := ⟨[0, 1, 2, 8, 3], [1, 2], [], 1, s122.1, [.cell 2 true 26, .tmp 3], 2⟩
theorem ok122 : FnM Tryz.prog 122 fun122 := SC.okM s122 rfl (fn := Tryz.f122) (by kernel_rfl) (by kernel_rfl)
noncomputable def s127 : SC (Tryz.f127.body.getD .skip) := SC.mk' (by simp only [Tryz.f127, go_sem]; rfl)
noncomputable def fun127 : Fun := ⟨[0, 1, 2, 6, 7, 11, 15, 4, 5], [2], [], 2, s127.1, [.tmp 4, .tmp 5], 0⟩
theorem ok127 : FnM Tryz.prog 127 fun127 := SC.okM s127 rfl (fn := Tryz.f127) (by kernel_rfl) (by kernel_rfl)
noncomputable def s131 : SC (Tryz.f131.body.getD .skip) := SC.mk' (by simp only [Tryz.f131, go_sem]; rfl)
noncomputable def fun131 : Fun := ⟨[0, 2, 9, 3], [2], [], 1, s131.1, [.cell 2 true 2, .tmp 3], 0⟩
theorem ok131 : FnM Tryz.prog 131 fun131 := SC.okM s131 rfl (fn := Tryz.f131) (by kernel_rfl) (by kernel_rfl)
noncomputable def s139 : SC (Tryz.f139.body.getD .skip) := SC.mk' (by simp only [Tryz.f139, go_sem]; rfl)
noncomputable def fun139 : Fun := ⟨[0, 1, 2, 3, 6], [3, 6], [], 3, s139.1, [.cell 6 true 63], 2⟩
theorem ok139 : FnM Tryz.prog 139 fun139 := SC.okM s139 rfl (fn := Tryz.f139) (by kernel_rfl) (by kernel_rfl)
noncomputable def s146 : SC (Tryz.f146.body.getD .skip) := SC.mk' (by simp only [Tryz.f146, go_sem]; rfl)
noncomputable def fun146 : Fun := ⟨[0, 1, 2, 4, 9, 5], [2, 4], [], 2, s146.1, [.cell 4 true 4, .tmp 5], 1⟩
theorem ok146 : FnM Tryz.prog 146 fun146 := SC.okM s146 rfl (fn := Tryz.f146) (by kernel_rfl) (by kernel_rfl)
noncomputable def s163 : SC (Tryz.f163.body.getD .skip) := SC.mk' (by simp only [Tryz.f163, go_sem]; rfl)
noncomputable def fun163 : Fun := ⟨[0, 1, 2], [1], [], 1, s163.1, [.tmp 2], 0⟩
theorem ok163 : FnM Tryz.prog 163 fun163 := SC.okM s163 rfl (fn := Tryz.f163) (by kernel_rfl) (by kernel_rfl)
noncomputable def s164 : SC (Tryz.f164.body.getD .skip) := SC.mk' (by simp only [Tryz.f164, go_sem]; rfl)
noncomputable def fun164 : Fun := ⟨[0, 1, 2, 6], [], [], 3, s164.1, [.tmp 6], 0⟩
theorem ok164 : FnM Tryz.prog 164 fun164 := SC.okM s164 rfl (fn := Tryz.f164) (by kernel_rfl) (by kernel_rfl)
noncomputable def s165 : SC (Tryz.f165.body.getD .skip) := SC.mk' (by simp only [Tryz.f165, go_sem]; rfl)
noncomputable def fun165 : Fun := ⟨[0, 1, 2, 9, 8, 26, 32, 6, 7], [], [], 3, s165.1, [.tmp 6, .tmp 7], 0⟩
theorem ok165 : FnM Tryz.prog 165 fun165 := SC.okM s165 rfl (fn := Tryz.f165) (by kernel_rfl) (by kernel_rfl)
noncomputable def s169 : SC (Tryz.f169.body.getD .skip) := SC.mk' (by simp only [Tryz.f169, go_sem]; rfl)
noncomputable def fun169 : Fun := ⟨[0, 4, 2], [], [], 1, s169.1, [.tmp 2], 0⟩
theorem ok169 : FnM Tryz.prog 169 fun169 := SC.okM s169 rfl (fn := Tryz.f169) (by kernel_rfl) (by kernel_rfl)
noncomputable def s170 : SC (Tryz.f170.body.getD .skip) := SC.mk' (by simp only [Tryz.f170, go_sem]; rfl)
noncomputable def fun170 : Fun := ⟨[0, 3, 30, 32, 47, 57, 2], [], [], 1, s170.1, [.tmp 2], 9⟩
theorem ok170 : FnM Tryz.prog 170 fun170 := SC.okM s170 rfl (fn := Tryz.f170) (by kernel_rfl) (by kernel_rfl)
noncomputable def s172 : SC (Tryz.f172.body.getD .skip) := SC.mk' (by simp only [Tryz.f172, go_sem]; rfl)
noncomputable def fun172 : Fun := ⟨[0, 3, 4, 5, 6, 28, 44, 64, 95, 2], [5], [72], 1, s172.1, [.tmp 2], 2⟩
theorem ok172 : FnM Tryz.prog 172 fun172 := SC.okM s172 rfl (fn := Tryz.f172) (by kernel_rfl) (by kernel_rfl)
noncomputable def s173 : SC (Tryz.f173.body.getD .skip) := SC.mk' (by simp only [Tryz.f173, go_sem]; rfl)
noncomputable def fun173 : Fun := ⟨[0, 3, 31, 2], [], [], 1, s173.1, [.tmp 2], 2⟩
theorem ok173 : FnM Tryz.prog 173 fun173 := SC.okM s173 rfl (fn := Tryz.f173) (by kernel_rfl) (by kernel_rfl)
noncomputable def s176 : SC (Tryz.f176.body.getD .skip) := SC.mk' (by simp only [Tryz.f176, go_sem]; rfl)
noncomputable def fun176 : Fun := ⟨[0, 3, 6, 4, 5, 44, 71, 106, 134, 156, 2], [4, 5], [], 1, s176.1, [.tmp 2], 11⟩
theorem ok176 : FnM Tryz.prog 176 fun176 := SC.okM s176 rfl (fn := Tryz.f176) (by kernel_rfl) (by kernel_rfl)
noncomputable def s183 : SC (Tryz.f183.body.getD .skip) := SC.mk' (by simp only [Tryz.f183, go_sem]; rfl)
noncomputable def fun183 : Fun := ⟨[0, 2], [], [], 1, s183.1, [.tmp 2], 1⟩
theorem ok183 : FnM Tryz.prog 183 fun183 := SC.okM s183 rfl (fn := Tryz.f183) (by kernel_rfl) (by kernel_rfl)
noncomputable def s188 : SC (Tryz.f188.body.getD .skip) := SC.mk' (by simp only [Tryz.f188, go_sem]; rfl)
noncomputable def fun188 : Fun := ⟨[0, 1, 2], [1, 2], [], 1, s188.1, [.cell 2 true 8], 1⟩
theorem ok188 : FnM Tryz.prog 188 fun188 := SC.okM s188 rfl (fn := Tryz.f188) (by kernel_rfl) (by kernel_rfl)
noncomputable def s191 : SC (Tryz.f191.body.getD .skip) := SC.mk' (by simp only [Tryz.f191, go_sem]; rfl)
noncomputable def fun191 : Fun := ⟨[0, 1, 2, 4, 5, 13, 3], [1, 2, 4], [], 1, s191.1, [.cell 2 true 26, .tmp 3], 1⟩
theorem ok191 : FnM Tryz.prog 191 fun191 := SC.okM s191 rfl (fn := Tryz.f191) (by kernel_rfl) (by kernel_rfl)
noncomputable def s209 : SC (Tryz.f209.body.getD .skip) := SC.mk' (by simp only [Tryz.f209, go_sem]; rfl)
noncomputable def fun209 : Fun := ⟨[0, 1, 2, 4], [2], [], 2, s209.1, [.tmp 4], 0⟩
theorem ok209 : FnM Tryz.prog 209 fun209 := SC.okM s209 rfl (fn := Tryz.f209) (by kernel_rfl) (by kernel_rfl)
noncomputable def s235 : SC (Tryz.f235.body.getD .skip) := SC.mk' (by simp only [Tryz.f235, go_sem]; rfl)
noncomputable def fun235 : Fun := ⟨[0, 1, 2, 3, 4, 5, 6, 12, 16, 49, 18, 15, 47, 19, 20, 35, 41, 48, 50, 63, 73, 13, 14], [12, 18, 19], [23, 25, 27, 29, 31], 6, s235.1, [.cell 12 true 8, .tmp 13, .tmp 14], 9⟩
theorem ok235 : FnM Tryz.prog 235 fun235 := SC.okM s235 rfl (fn := Tryz.f235) (by kernel_rfl) (by kernel_rfl)
noncomputable def s237 : SC (Tryz.f237.body.getD .skip) := SC.mk' (by simp only [Tryz.f237, go_sem]; rfl)
noncomputable def fun237 : Fun := ⟨[0, 1, 2, 4, 6, 7, 10, 3, 20, 11, 30, 38, 8], [3, 4, 6, 7], [], 3, s237.1, [.cell 6 true 11, .cell 7 true 5, .tmp 8], 4⟩
theorem ok237 : FnM Tryz.prog 237 fun237 := SC.okM s237 rfl (fn := Tryz.f237) (by kernel_rfl) (by kernel_rfl)
noncomputable def s240 : SC (Tryz.f240.body.getD .skip) := SC.mk' (by simp only [Tryz.f240, go_sem]; rfl)
noncomputable def fun240 : Fun := ⟨[0, 1, 2, 4, 14, 5], [2, 4], [], 2, s240.1, [.cell 4 true 4, .tmp 5], 0⟩
theorem ok240 : FnM Tryz.prog 240 fun240 := SC.okM s240 rfl (fn := Tryz.f240) (by kernel_rfl) (by kernel_rfl)
noncomputable def s242 : SC (Tryz.f242.body.getD .skip) := SC.mk' (by simp only [Tryz.f242, go_sem]; rfl)
noncomputable def fun242 : Fun := ⟨[0, 1, 2, 4, 10, 16, 3], [1, 2], [], 1, s242.1, [.cell 2 true 4, .tmp 3], 1⟩
theorem ok242 : FnM Tryz.prog 242 fun242 := SC.okM s242 rfl (fn := Tryz.f242) (by kernel_rfl) (by kernel_rfl)
noncomputable def s246 : SC (Tryz.f246.body.getD .skip) := SC.mk' (by simp only [Tryz.f246, go_sem]; rfl)
noncomputable def fun246 : Fun := ⟨[0, 1, 2, 4, 9, 5], [2, 4], [], 2, s246.1, [.cell 4 true 8, .tmp 5], 1⟩
theorem ok246 : FnM Tryz.prog 246 fun246 := SC.okM s246 rfl (fn := Tryz.f246) (by kernel_rfl) (by kernel_rfl)
noncomputable def s253 : SC (Tryz.f253.body.getD .skip) := SC.mk' (by simp only [Tryz.f253, go_sem]; rfl)
noncomputable def fun253 : Fun := ⟨[0, 1, 2, 3, 8, 11, 4, 5, 10, 12, 18, 27, 43, 9], [4, 5, 8, 11], [], 4, s253.1, [.cell 8 true 4, .tmp 9], 10⟩
theorem ok253 : FnM Tryz.prog 253 fun253 := SC.okM s253 rfl (fn := Tryz.f253) (by kernel_rfl) (by kernel_rfl)
noncomputable def s254 : SC (Tryz.f254.body.getD .skip) := SC.mk' (by simp only [Tryz.f254, go_sem]; rfl)
noncomputable def fun254 : Fun := ⟨[0, 1, 3, 8, 4, 61, 5, 6, 59, 9, 40, 45, 56, 60, 62, 68, 81, 2], [1, 8], [], 1, s254.1, [.tmp 2], 2⟩
theorem ok254 : FnM Tryz.prog 254 fun254 := SC.okM s254 rfl (fn := Tryz.f254) (by kernel_rfl) (by kernel_rfl)
noncomputable def s256 : SC (Tryz.f256.body.getD .skip) := SC.mk' (by simp only [Tryz.f256, go_sem]; rfl)
noncomputable def fun256 : Fun := ⟨[0, 1, 2], [1], [], 1, s256.1, [.tmp 2], 0⟩
theorem ok256 : FnM Tryz.prog 256 fun256 := SC.okM s256 rfl (fn := Tryz.f256) (by kernel_rfl) (by kernel_rfl)
noncomputable def s261 : SC (Tryz.f261.body.getD .skip) := SC.mk' (by simp only [Tryz.f261, go_sem]; rfl)
noncomputable def fun261 : Fun := ⟨[0, 1, 2, 4], [2], [], 2, s261.1, [.tmp 4], 0⟩
theorem ok261 : FnM Tryz.prog 261 fun261 := SC.okM s261 rfl (fn := Tryz.f261) (by kernel_rfl) (by kernel_rfl)
noncomputable def s262 : SC (Tryz.f262.body.getD .skip) := SC.mk' (by simp only [Tryz.f262, go_sem]; rfl)
noncomputable def fun262 : Fun := ⟨[0, 1, 2, 4, 5, 7, 8, 11, 15, 9, 26, 10, 37, 6], [2, 4, 5], [44], 2, s262.1, [.cell 4 true 2, .cell 5 true 7, .tmp 6], 7⟩
theorem ok262 : FnM Tryz.prog 262 fun262 := SC.okM s262 rfl (fn := Tryz.f262) (by kernel_rfl) (by kernel_rfl)
noncomputable def s266 : SC (Tryz.f266.body.getD .skip) := SC.mk' (by simp only [Tryz.f266, go_sem]; rfl)
noncomputable def fun266 : Fun := ⟨[0, 4, 2], [], [], 1, s266.1, [.tmp 2], 0⟩
theorem ok266 : FnM Tryz.prog 266 fun266 := SC.okM s266 rfl (fn := Tryz.f266) (by kernel_rfl) (by kernel_rfl)
noncomputable def s269 : SC (Tryz.f269.body.getD .skip) := SC.mk' (by simp only [Tryz.f269, go_sem]; rfl)
noncomputable def fun269 : Fun := ⟨[0, 1, 2, 4, 5], [2], [], 2, s269.1, [.tmp 4, .tmp 5], 4⟩
theorem ok269 : FnM Tryz.prog 269 fun269 := SC.okM s269 rfl (fn := Tryz.f269) (by kernel_rfl) (by kernel_rfl)
noncomputable def s270 : SC (Tryz.f270.body.getD .skip) := SC.mk' (by simp only [Tryz.f270, go_sem]; rfl)
noncomputable def fun270 : Fun := ⟨[0, 2], [], [], 1, s270.1, [.tmp 2], 0⟩
theorem ok270 : FnM Tryz.prog 270 fun270 := SC.okM s270 rfl (fn := Tryz.f270) (by kernel_rfl) (by kernel_rfl)
noncomputable def s271 : SC (Tryz.f271.body.getD .skip) := SC.mk' (by simp only [Tryz.f271, go_sem]; rfl)
noncomputable def fun271 : Fun := ⟨[0, 1, 6, 7, 11, 17, 4, 5], [], [], 2, s271.1, [.tmp 4, .tmp 5], 6⟩
theorem ok271 : FnM Tryz.prog 271 fun271 := SC.okM s271 rfl (fn := Tryz.f271) (by kernel_rfl) (by kernel_rfl)
noncomputable def s275 : SC (Tryz.f275.body.getD .skip) := SC.mk' (by simp only [Tryz.f275, go_sem]; rfl)
noncomputable def fun275 : Fun := ⟨[0, 1, 2, 3, 4, 6, 11, 5], [2, 3, 4], [18], 2, s275.1, [.cell 4 true 3, .tmp 5], 4⟩
theorem ok275 : FnM Tryz.prog 275 fun275 := SC.okM s275 rfl (fn := Tryz.f275) (by kernel_rfl) (by kernel_rfl)
noncomputable def s281 : SC (Tryz.f281.body.getD .skip) := SC.mk' (by simp only [Tryz.f281, go_sem]; rfl)
noncomputable def fun281 : Fun := ⟨[0, 1, 2, 4], [2], [], 2, s281.1, [.tmp 4], 0⟩
theorem ok281 : FnM Tryz.prog 281 fun281 := SC.okM s281 rfl (fn := Tryz.f281) (by kernel_rfl) (by kernel_rfl)
noncomputable def s296 : SC (Tryz.f296.body.getD .skip) := SC.mk' (by simp only [Tryz.f296, go_sem]; rfl)
noncomputable def fun296 : Fun := ⟨[0, 1, 2, 3, 5, 9, 6], [], [], 3, s296.1, [.tmp 6], 10⟩
theorem ok296 : FnM Tryz.prog 296 fun296 := SC.okM s296 rfl (fn := Tryz.f296) (by kernel_rfl) (by kernel_rfl)
noncomputable def s298 : SC (Tryz.f298.body.getD .skip) := SC.mk' (by simp only [Tryz.f298, go_sem]; rfl)
noncomputable def fun298 : Fun := ⟨[0, 1, 2, 3, 6], [3], [], 3, s298.1, [.tmp 6], 1⟩
theorem ok298 : FnM Tryz.prog 298 fun298 := SC.okM s298 rfl (fn := Tryz.f298) (by kernel_rfl) (by kernel_rfl)
noncomputable def s300 : SC (Tryz.f300.body.getD .skip) := SC.mk' (by simp only [Tryz.f300, go_sem]; rfl)
noncomputable def fun300 : Fun := ⟨[0, 1, 2, 4, 3, 6, 7, 10, 21, 9, 38, 42, 53, 55, 8], [3, 4, 6, 7], [], 3, s300.1, [.cell 6 true 11, .cell 7 true 5, .tmp 8], 3⟩
theorem ok300 : FnM Tryz.prog 300 fun300 := SC.okM s300 rfl (fn := Tryz.f300) (by kernel_rfl) (by kernel_rfl)
noncomputable def s303 : SC (Tryz.f303.body.getD .skip) := SC.mk' (by simp only [Tryz.f303, go_sem]; rfl)
noncomputable def fun303 : Fun := ⟨[0, 1, 3], [], [], 2, s303.1, [.tmp 3], 0⟩
theorem ok303 : FnM Tryz.prog 303 fun303 := SC.okM s303 rfl (fn := Tryz.f303) (by kernel_rfl) (by kernel_rfl)
noncomputable def s305 : SC (Tryz.f305.body.getD .skip) := SC.mk' (by simp only [Tryz.f305, go_sem]; rfl)
noncomputable def fun305 : Fun := ⟨[0, 1, 2, 3, 7, 17, 6], [3], [], 3, s305.1, [.tmp 6], 2⟩
theorem ok305 : FnM Tryz.prog 305 fun305 := SC.okM s305 rfl (fn := Tryz.f305) (by kernel_rfl) (by kernel_rfl)
noncomputable def s307 : SC (Tryz.f307.body.getD .skip) := SC.mk' (by simp only [Tryz.f307, go_sem]; rfl)
noncomputable def fun307 : Fun := ⟨[0, 1, 2, 4], [2], [], 2, s307.1, [.tmp 4], 0⟩
theorem ok307 : FnM Tryz.prog 307 fun307 := SC.okM s307 rfl (fn := Tryz.f307) (by kernel_rfl) (by kernel_rfl)
noncomputable def s311 : SC (Tryz.f311.body.getD .skip) := SC.mk' (by simp only [Tryz.f311, go_sem]; rfl)
noncomputable def fun311 : Fun := ⟨[0, 4, 2], [], [], 1, s311.1, [.tmp 2], 0⟩
theorem ok311 : FnM Tryz.prog 311 fun311 := SC.okM s311 rfl (fn := Tryz.f311) (by kernel_rfl) (by kernel_rfl)
noncomputable def s319 : SC (Tryz.f319.body.getD .skip) := SC.mk' (by simp only [Tryz.f319, go_sem]; rfl)
noncomputable def fun319 : Fun := ⟨[0, 13, 5, 11, 4, 8, 10, 12, 14, 3, 23, 28, 36, 2], [4], [], 1, s319.1, [.tmp 2], 4⟩
theorem ok319 : FnM Tryz.prog 319 fun319 := SC.okM s319 rfl (fn := Tryz.f319) (by kernel_rfl) (by kernel_rfl)
noncomputable def s323 : SC (Tryz.f323.body.getD .skip) := SC.mk' (by simp only [Tryz.f323, go_sem]; rfl)
noncomputable def fun323 : Fun := ⟨[0, 1, 2, 3, 4], [2], [], 2, s323.1, [.tmp 4], 2⟩
theorem ok323 : FnM Tryz.prog 323 fun323 := SC.okM s323 rfl (fn := Tryz.f323) (by kernel_rfl) (by kernel_rfl)
noncomputable def s324 : SC (Tryz.f324.body.getD .skip) := SC.mk' (by simp only [Tryz.f324, go_sem]; rfl)
noncomputable def fun324 : Fun := ⟨[0, 1, 2, 9, 11, 8, 10, 17, 31, 6, 7], [], [], 3, s324.1, [.tmp 6, .tmp 7], 3⟩
theorem ok324 : FnM Tryz.prog 324 fun324 := SC.okM s324 rfl (fn := Tryz.f324) (by kernel_rfl) (by kernel_rfl)
noncomputable def s325 : SC (Tryz.f325.body.getD .skip) := SC.mk' (by simp only [Tryz.f325, go_sem]; rfl)
noncomputable def fun325 : Fun := ⟨[0, 1, 2, 4], [2], [], 2, s325.1, [.tmp 4], 2⟩
theorem ok325 : FnM Tryz.prog 325 fun325 := SC.okM s325 rfl (fn := Tryz.f325) (by kernel_rfl) (by kernel_rfl)
noncomputable def s327 : SC (Tryz.f327.body.getD .skip) := SC.mk' (by simp only [Tryz.f327, go_sem]; rfl)
noncomputable def fun327 : Fun := ⟨[0, 1, 3, 4], [], [], 2, s327.1, [.tmp 4], 3⟩
theorem ok327 : FnM Tryz.prog 327 fun327 := SC.okM s327 rfl (fn := Tryz.f327) (by kernel_rfl) (by kernel_rfl)
noncomputable def s332 : SC (Tryz.f332.body.getD .skip) := SC.mk' (by simp only [Tryz.f332, go_sem]; rfl)
noncomputable def fun332 : Fun := ⟨[0, 1, 6, 3, 5, 2, 12, 24, 4], [2, 3], [], 2, s332.1, [.tmp 4], 0⟩
theorem ok332 : FnM Tryz.prog 332 fun332 := SC.okM s332 rfl (fn := Tryz.f332) (by kernel_rfl) (by kernel_rfl)
noncomputable def s339 : SC (Tryz.f339.body.getD .skip) := SC.mk' (by simp only [Tryz.f339, go_sem]; rfl)
noncomputable def fun339 : Fun := ⟨[0, 1, 2, 3, 5, 6, 10, 15, 22, 28, 4], [2, 3], [], 2, s339.1, [.tmp 4], 3⟩
theorem ok339 : FnM Tryz.prog 339 fun339 := SC.okM s339 rfl (fn := Tryz.f339) (by kernel_rfl) (by kernel_rfl)
noncomputable def s347 : SC (Tryz.f347.body.getD .skip) := SC.mk' (by simp only [Tryz.f347, go_sem]; rfl)
noncomputable def fun347 : Fun := ⟨[0, 1, 2, 4, 5, 13, 3], [1, 2, 4], [], 1, s347.1, [.cell 2 true 26, .tmp 3], 1⟩
theorem ok347 : FnM Tryz.prog 347 fun347 := SC.okM s347 rfl (fn := Tryz.f347) (by kernel_rfl) (by kernel_rfl)
noncomputable def s352 : SC (Tryz.f352.body.getD .skip) := SC.mk' (by simp only [Tryz.f352, go_sem]; rfl)
noncomputable def fun352 : Fun := ⟨[0, 1, 2, 5, 4], [], [], 3, s352.1, [.tmp 4], 5⟩
theorem ok352 : FnM Tryz.prog 352 fun352 := SC.okM s352 rfl (fn := Tryz.f352) (by kernel_rfl) (by kernel_rfl)
noncomputable def s357 : SC (Tryz.f357.body.getD .skip) := SC.mk' (by simp only [Tryz.f357, go_sem]; rfl)
noncomputable def fun357 : Fun := ⟨[0, 1, 2, 6, 3, 8, 9, 16, 25, 7], [3, 6], [], 3, s357.1, [.cell 6 true 11, .tmp 7], 2⟩
theorem ok357 : FnM Tryz.prog 357 fun357 := SC.okM s357 rfl (fn := Tryz.f357) (by kernel_rfl) (by kernel_rfl)
noncomputable def s372 : SC (Tryz.f372.body.getD .skip) := SC.mk' (by simp only [Tryz.f372, go_sem]; rfl)
noncomputable def fun372 : Fun := ⟨[0, 1, 8, 5, 7, 9, 16, 4], [], [], 2, s372.1, [.tmp 4], 2⟩
theorem ok372 : FnM Tryz.prog 372 fun372 := SC.okM s372 rfl (fn := Tryz.f372) (by kernel_rfl) (by kernel_rfl)
noncomputable def s378 : SC (Tryz.f378.body.getD .skip) := SC.mk' (by simp only [Tryz.f378, go_sem]; rfl)
noncomputable def fun378 : Fun := ⟨[0, 1, 2, 3, 4, 7, 8, 10, 16, 40, 9], [4, 7, 8], [], 4, s378.1, [.cell 8 true 11, .tmp 9], 2⟩
theorem ok378 : FnM Tryz.prog 378 fun378 := SC.okM s378 rfl (fn := Tryz.f378) (by kernel_rfl) (by kernel_rfl)
noncomputable def s392 : SC (Tryz.f392.body.getD .skip) := SC.mk' (by simp only [Tryz.f392, go_sem]; rfl)
noncomputable def fun392 : Fun := ⟨[0, 1, 2, 7, 6, 4, 5, 22], [2, 4, 5, 6], [], 2, s392.1, [.cell 4 true 3, .cell 5 true 7], 2⟩
theorem ok392 : FnM Tryz.prog 392 fun392 := SC.okM s392 rfl (fn := Tryz.f392) (by kernel_rfl) (by kernel_rfl)
noncomputable def s393 : SC (Tryz.f393.body.getD .skip) := SC.mk' (by simp only [Tryz.f393, go_sem]; rfl)
noncomputable def fun393 : Fun := ⟨[0, 1, 2, 7, 8, 9, 16, 22, 31, 68, 6], [], [], 3, s393.1, [.tmp 6], 3⟩
theorem ok393 : FnM Tryz.prog 393 fun393 := SC.okM s393 rfl (fn := Tryz.f393) (by kernel_rfl) (by kernel_rfl)
noncomputable def s399 : SC (Tryz.f399.body.getD .skip) := SC.mk' (by simp only [Tryz.f399, go_sem]; rfl)
noncomputable def fun399 : Fun := ⟨[0, 2], [], [], 1, s399.1, [.tmp 2], 0⟩
theorem ok399 : FnM Tryz.prog 399 fun399 := SC.okM s399 rfl (fn := Tryz.f399) (by kernel_rfl) (by kernel_rfl)
noncomputable def s400 : SC (Tryz.f400.body.getD .skip) := SC.mk' (by simp only [Tryz.f400, go_sem]; rfl)
noncomputable def fun400 : Fun := ⟨[0, 1, 2, 9, 4], [2], [], 2, s400.1, [.tmp 4], 0⟩
theorem ok400 : FnM Tryz.prog 400 fun400 := SC.okM s400 rfl (fn := Tryz.f400) (by kernel_rfl) (by kernel_rfl)
noncomputable def s402 : SC (Tryz.f402.body.getD .skip) := SC.mk' (by simp only [Tryz.f402, go_sem]; rfl)
noncomputable def fun402 : Fun := ⟨[0, 1, 2, 3, 15, 23, 6], [3], [], 3, s402.1, [.tmp 6], 1⟩
theorem ok402 : FnM Tryz.prog 402 fun402 := SC.okM s402 rfl (fn := Tryz.f402) (by kernel_rfl) (by kernel_rfl)
noncomputable def s406 : SC (Tryz.f406.body.getD .skip) := SC.mk' (by simp only [Tryz.f406, go_sem]; rfl)
noncomputable def fun406 : Fun := ⟨[0, 1, 2, 3, 4, 16, 13, 10, 12, 14, 18, 19, 20, 11, 25, 32, 39, 56, 75, 80, 97, 15, 17, 125], [], [], 5, s406.1, [], 7⟩
theorem ok406 : FnM Tryz.prog 406 fun406 := SC.okM s406 rfl (fn := Tryz.f406) (by kernel_rfl) (by kernel_rfl)
noncomputable def s407 : SC (Tryz.f407.body.getD .skip) := SC.mk' (by simp only [Tryz.f407, go_sem]; rfl)
noncomputable def fun407 : Fun := ⟨[0, 2], [], [], 1, s407.1, [.tmp 2], 1⟩
theorem ok407 : FnM Tryz.prog 407 fun407 := SC.okM s407 rfl (fn := Tryz.f407) (by kernel_rfl) (by kernel_rfl)
noncomputable def s421 : SC (Tryz.f421.body.getD .skip) := SC.mk' (by simp only [Tryz.f421, go_sem]; rfl)
noncomputable def fun421 : Fun := ⟨[0, 2, 4, 8, 14], [], [], 1, s421.1, [.tmp 2], 0⟩
theorem ok421 : FnM Tryz.prog 421 fun421 := SC.okM s421 rfl (fn := Tryz.f421) (by kernel_rfl) (by kernel_rfl)
end Go.M
