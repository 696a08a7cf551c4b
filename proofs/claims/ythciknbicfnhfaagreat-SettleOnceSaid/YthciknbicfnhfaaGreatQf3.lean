/-
  The codes of functions, as the machine takes them.
  No condition: definitions and lemmas.
-/
import Derived.Test.YthciknbicfnhfaaGreatQty
set_option linter.all false
set_option maxRecDepth 100000
set_option maxHeartbeats 4000000
namespace Go.M
open Go Go.Proofs
open Go.Eng (SOp SOper SCode sizeP aggP zerosOf bytesP zeroVal stripCode stripOps stripOper strip stripParts kindsOf)

noncomputable def s8 : SC (Tryz.f8.body.getD .skip) := SC.mk' (by simp only [Tryz.f8, go_sem]; rfl)
noncomputable def fun8 : Fun := ⟨[0, 1, 2, 3, 9, 12, 4, 11, 8, 20, 40], [4, 8, 9], [], 4, s8.1, [.cell 8 true 23], 18⟩
theorem ok8 : FnM Tryz.prog 8 fun8 := SC.okM s8 rfl (fn := Tryz.f8) (by kernel_rfl) (by kernel_rfl)
noncomputable def s11 : SC (Tryz.f11.body.getD .skip) := SC.mk' (by simp only [Tryz.f11, go_sem]; rfl)
noncomputable def fun11 : Fun := ⟨[0, 1, 2, 5, 15, 35, 4], [2], [], 2, s11.1, [.tmp 4], 2⟩
theorem ok11 : FnM Tryz.prog 11 fun11 := SC.okM s11 rfl (fn := Tryz.f11) (by kernel_rfl) (by kernel_rfl)
noncomputable def s13 : SC (Tryz.f13.body.getD .skip) := SC.mk' (by simp only [Tryz.f13, go_sem]; rfl)
noncomputable def fun13 : Fun := ⟨[1, 2, 3, 5, 4, 9, 7, 11, 0], [1, 2, 3, 4, 8], [], 0, s13.1, [.tmp 0], 19⟩
theorem ok13 : FnM Tryz.prog 13 fun13 := SC.okM s13 rfl (fn := Tryz.f13) (by kernel_rfl) (by kernel_rfl)
noncomputable def s15 : SC (Tryz.f15.body.getD .skip) := SC.mk' (by simp only [Tryz.f15, go_sem]; rfl)
noncomputable def fun15 : Fun := ⟨[0, 1, 6, 8, 2, 5, 7, 9, 10, 21, 32, 45, 3, 4], [1, 2], [41], 1, s15.1, [.cell 2 true 23, .tmp 3, .tmp 4], 17⟩
theorem ok15 : FnM Tryz.prog 15 fun15 := SC.okM s15 rfl (fn := Tryz.f15) (by kernel_rfl) (by kernel_rfl)
noncomputable def s21 : SC (Tryz.f21.body.getD .skip) := SC.mk' (by simp only [Tryz.f21, go_sem]; rfl)
noncomputable def fun21 : Fun := ⟨[0, 1, 2, 4, 5, 12, 3], [1, 2, 4], [], 1, s21.1, [.cell 2 true 23, .tmp 3], 3⟩
theorem ok21 : FnM Tryz.prog 21 fun21 := SC.okM s21 rfl (fn := Tryz.f21) (by kernel_rfl) (by kernel_rfl)
noncomputable def s26 : SC (Tryz.f26.body.getD .skip) := SC.mk' (by simp only [Tryz.f26, go_sem]; rfl)
noncomputable def fun26 : Fun := ⟨[0, 1, 4], [], [], 2, s26.1, [.tmp 4], 0⟩
theorem ok26 : FnM Tryz.prog 26 fun26 := SC.okM s26 rfl (fn := Tryz.f26) (by kernel_rfl) (by kernel_rfl)
noncomputable def s27 : SC (Tryz.f27.body.getD .skip) := SC.mk' (by simp only [Tryz.f27, go_sem]; rfl)
noncomputable def fun27 : Fun := ⟨[0, 1, 3, 6, 9, 7, 8, 5, 10, 11, 4, 12, 31, 36, 59, 64, 69, 88, 93, 105, 108, 139, 142, 152, 161, 2], [1, 6], [], 1, s27.1, [.tmp 2], 1⟩
theorem ok27 : FnM Tryz.prog 27 fun27 := SC.okM s27 rfl (fn := Tryz.f27) (by kernel_rfl) (by kernel_rfl)
noncomputable def s39 : SC (Tryz.f39.body.getD .skip) := SC.mk' (by simp only [Tryz.f39, go_sem]; rfl)
noncomputable def fun39 : Fun := ⟨[0, 1, 3, 6, 2], [1], [], 1, s39.1, [.tmp 2], 1⟩
theorem ok39 : FnM Tryz.prog 39 fun39 := SC.okM s39 rfl (fn := Tryz.f39) (by kernel_rfl) (by kernel_rfl)
noncomputable def s40 : SC (Tryz.f40.body.getD .skip) := SC.mk' (by simp only [Tryz.f40, go_sem]; rfl)
noncomputable def fun40 : Fun := ⟨[0, 1, 2, 7, 4, 8, 9, 22, 44, 5, 6], [2, 4, 7], [29, 34], 2, s40.1, [.cell 4 true 63, .tmp 5, .tmp 6], 4⟩
theorem ok40 : FnM Tryz.prog 40 fun40 := SC.okM s40 rfl (fn := Tryz.f40) (by kernel_rfl) (by kernel_rfl)
noncomputable def s43 : SC (Tryz.f43.body.getD .skip) := SC.mk' (by simp only [Tryz.f43, go_sem]; rfl)
noncomputable def fun43 : Fun := ⟨[0, 1, 2, 4, 3], [1, 2], [], 1, s43.1, [.cell 2 true 63, .tmp 3], 3⟩
theorem ok43 : FnM Tryz.prog 43 fun43 := SC.okM s43 rfl (fn := Tryz.f43) (by kernel_rfl) (by kernel_rfl)
noncomputable def s45 : SC (Tryz.f45.body.getD .skip) := SC.mk' (by simp only [Tryz.f45, go_sem]; rfl)
noncomputable def fun45 : Fun := ⟨[0, 1, 2, 9, 8, 27, 33, 6, 7], [], [], 3, s45.1, [.tmp 6, .tmp 7], 0⟩
theorem ok45 : FnM Tryz.prog 45 fun45 := SC.okM s45 rfl (fn := Tryz.f45) (by kernel_rfl) (by kernel_rfl)
noncomputable def s46 : SC (Tryz.f46.body.getD .skip) := SC.mk' (by simp only [Tryz.f46, go_sem]; rfl)
noncomputable def fun46 : Fun := ⟨[0, 2], [], [], 1, s46.1, [.tmp 2], 1⟩
theorem ok46 : FnM Tryz.prog 46 fun46 := SC.okM s46 rfl (fn := Tryz.f46) (by kernel_rfl) (by kernel_rfl)
noncomputable def s47 : SC (Tryz.f47.body.getD .skip) := SC.mk' (by simp only [Tryz.f47, go_sem]; rfl)
noncomputable def fun47 : Fun := ⟨[0, 1, 5, 2, 10, 20, 4], [2], [], 2, s47.1, [.tmp 4], 0⟩
theorem ok47 : FnM Tryz.prog 47 fun47 := SC.okM s47 rfl (fn := Tryz.f47) (by kernel_rfl) (by kernel_rfl)
noncomputable def s49 : SC (Tryz.f49.body.getD .skip) := SC.mk' (by simp only [Tryz.f49, go_sem]; rfl)
noncomputable def fun49 : Fun := ⟨[0, 4, 1, 10, 5, 2], [1], [], 1, s49.1, [.tmp 2], 0⟩
theorem ok49 : FnM Tryz.prog 49 fun49 := SC.okM s49 rfl (fn := Tryz.f49) (by kernel_rfl) (by kernel_rfl)
noncomputable def s63 : SC (Tryz.f63.body.getD .skip) := SC.mk' (by simp only [Tryz.f63, go_sem]; rfl)
noncomputable def fun63 : Fun := ⟨[0, 2, 4, 5, 12, 3], [2, 4], [], 1, s63.1, [.cell 2 true 8, .tmp 3], 1⟩
theorem ok63 : FnM Tryz.prog 63 fun63 := SC.okM s63 rfl (fn := Tryz.f63) (by kernel_rfl) (by kernel_rfl)
noncomputable def s64 : SC (Tryz.f64.body.getD .skip) := SC.mk' (by simp only [Tryz.f64, go_sem]; rfl)
noncomputable def fun64 : Fun := ⟨[0, 1, 2, 6, 8, 9, 16, 22, 7], [6, 8], [], 3, s64.1, [.cell 6 true 8, .tmp 7], 1⟩
theorem ok64 : FnM Tryz.prog 64 fun64 := SC.okM s64 rfl (fn := Tryz.f64) (by kernel_rfl) (by kernel_rfl)
noncomputable def s80 : SC (Tryz.f80.body.getD .skip) := SC.mk' (by simp only [Tryz.f80, go_sem]; rfl)
noncomputable def fun80 : Fun := ⟨[0, 1, 4, 3, 7, 5, 6, 8, 12, 17, 29, 31, 36, 45, 66, 74, 79, 106, 2], [1, 4], [], 1, s80.1, [.tmp 2], 2⟩
theorem ok80 : FnM Tryz.prog 80 fun80 := SC.okM s80 rfl (fn := Tryz.f80) (by kernel_rfl) (by kernel_rfl)
noncomputable def s81 : SC (Tryz.f81.body.getD .skip) := SC.mk' (by simp only [Tryz.f81, go_sem]; rfl)
noncomputable def fun81 : Fun := ⟨[0, 1, 4], [], [], 2, s81.1, [.tmp 4], 0⟩
theorem ok81 : FnM Tryz.prog 81 fun81 := SC.okM s81 rfl (fn := Tryz.f81) (by kernel_rfl) (by kernel_rfl)
noncomputable def s83 : SC (Tryz.f83.body.getD .skip) := SC.mk' (by simp only [Tryz.f83, go_sem]; rfl)
noncomputable def fun83 : Fun := ⟨[0, 1, 5, 9, 18, 4], [], [], 2, s83.1, [.tmp 4], 0⟩
theorem ok83 : FnM Tryz.prog 83 fun83 := SC.okM s83 rfl (fn := Tryz.f83) (by kernel_rfl) (by kernel_rfl)
noncomputable def s86 : SC (Tryz.f86.body.getD .skip) := SC.mk' (by simp only [Tryz.f86, go_sem]; rfl)
noncomputable def fun86 : Fun := ⟨[0, 1, 2, 4, 6, 7, 13, 3, 105, 10, 30, 11, 16, 17, 22, 31, 64, 14, 15, 84, 91, 18, 101, 106, 113, 120, 8, 9], [3, 4, 6, 7, 11, 13, 17], [], 3, s86.1, [.cell 6 true 11, .cell 7 true 63, .tmp 8, .tmp 9], 14⟩
theorem ok86 : FnM Tryz.prog 86 fun86 := SC.okM s86 rfl (fn := Tryz.f86) (by kernel_rfl) (by kernel_rfl)
noncomputable def s96 : SC (Tryz.f96.body.getD .skip) := SC.mk' (by simp only [Tryz.f96, go_sem]; rfl)
noncomputable def fun96 : Fun := ⟨[0, 1, 38, 42, 2], [1], [], 1, s96.1, [.tmp 2], 1⟩
theorem ok96 : FnM Tryz.prog 96 fun96 := SC.okM s96 rfl (fn := Tryz.f96) (by kernel_rfl) (by kernel_rfl)
noncomputable def s102 : SC (Tryz.f102.body.getD .skip) := SC.mk' (by simp only [Tryz.f102, go_sem]; rfl)
noncomputable def fun102 : Fun := ⟨[0, 2, 9, 3], [2], [], 1, s102.1, [.cell 2 true 3, .tmp 3], 0⟩
theorem ok102 : FnM Tryz.prog 102 fun102 := SC.okM s102 rfl (fn := Tryz.f102) (by kernel_rfl) (by kernel_rfl)
noncomputable def s104 : SC (Tryz.f104.body.getD .skip) := SC.mk' (by simp only [Tryz.f104, go_sem]; rfl)
noncomputable def fun104 : Fun := ⟨[0, 1, 4, 44, 6, 28, 43, 45, 2, 3], [1, 6], [], 1, s104.1, [.tmp 2, .tmp 3], 2⟩
theorem ok104 : FnM Tryz.prog 104 fun104 := SC.okM s104 rfl (fn := Tryz.f104) (by kernel_rfl) (by kernel_rfl)
noncomputable def s105 : SC (Tryz.f105.body.getD .skip) := SC.mk' (by simp only [Tryz.f105, go_sem]; rfl)
noncomputable def fun105 : Fun := ⟨[0, 1, 13, 5, 10, 12, 14, 24, 4], [], [], 2, s105.1, [.tmp 4], 0⟩
theorem ok105 : FnM Tryz.prog 105 fun105 := SC.okM s105 rfl (fn := Tryz.f105) (by kernel_rfl) (by kernel_rfl)
noncomputable def s106 : SC (Tryz.f106.body.getD .skip) := SC.mk' (by simp only [Tryz.f106, go_sem]; rfl)
noncomputable def fun106 : Fun := ⟨[0, 2], [], [], 1, s106.1, [.tmp 2], 0⟩
theorem ok106 : FnM Tryz.prog 106 fun106 := SC.okM s106 rfl (fn := Tryz.f106) (by kernel_rfl) (by kernel_rfl)
noncomputable def s107 : SC (Tryz.f107.body.getD .skip) := SC.mk' (by simp only [Tryz.f107, go_sem]; rfl)
noncomputable def fun107 : Fun := ⟨[0, 4, 1, 10, 5, 2], [1], [], 1, s107.1, [.tmp 2], 0⟩
theorem ok107 : FnM Tryz.prog 107 fun107 := SC.okM s107 rfl (fn := Tryz.f107) (by kernel_rfl) (by kernel_rfl)
noncomputable def s113 : SC (Tryz.f113.body.getD .skip) := SC.mk' (by simp only [Tryz.f113, go_sem]; rfl)
noncomputable def fun113 : Fun := ⟨[0, 17, 2, 5, 15, 4, 13, 16, 18, 40, 3], [2], [], 1, s113.1, [.cell 2 true 5, .tmp 3], 1⟩
theorem ok113 : FnM Tryz.prog 113 fun113 := SC.okM s113 rfl (fn := Tryz.f113) (by kernel_rfl) (by kernel_rfl)
noncomputable def s114 : SC (Tryz.f114.body.getD .skip) := SC.mk' (by simp only [Tryz.f114, go_sem]; rfl)
noncomputable def fun114 : Fun := ⟨[0], [0], [], 0, s114.1, [.cell 0 true 4], 0⟩
theorem ok114 : FnM Tryz.prog 114 fun114 := SC.okM s114 rfl (fn := Tryz.f114) (by kernel_rfl) (by kernel_rfl)
noncomputable def s121 : SC (Tryz.f121.body.getD .skip) := SC.mk' (by simp only [Tryz.f121, go_sem]; rfl)
noncomputable def fun121 : Fun := ⟨[0, 1, 4], [], [], 2, s121.1, [.tmp 4], 1⟩
theorem ok121 : FnM Tryz.prog 121 fun121 := SC.okM s121 rfl (fn := Tryz.f121) (by kernel_rfl) (by kernel_rfl)
noncomputable def s126 : SC (Tryz.f126.body.getD .skip) := SC.mk' (by simp only [Tryz.f126, go_sem]; rfl)
noncomputable def fun126 : Fun := ⟨[0, 1, 2, 3, 8, 20, 6], [3], [], 3, s126.1, [.tmp 6], 0⟩
theorem ok126 : FnM Tryz.prog 126 fun126 := SC.okM s126 rfl (fn := Tryz.f126) (by kernel_rfl) (by kernel_rfl)
noncomputable def s129 : SC (Tryz.f129.body.getD .skip) := SC.mk' (by simp only [Tryz.f129, go_sem]; rfl)
noncomputable def fun129 : Fun := ⟨[0, 1, 2, 3, 7, 4, 6, 36], [3, 4, 6, 7], [26], 3, s129.1, [.cell 6 true 63], 1⟩
theorem ok129 : FnM Tryz.prog 129 fun129 := SC.okM s129 rfl (fn := Tryz.f129) (by kernel_rfl) (by kernel_rfl)
noncomputable def s130 : SC (Tryz.f130.body.getD .skip) := SC.mk' (by simp only [Tryz.f130, go_sem]; rfl)
noncomputable def fun130 : Fun := ⟨[0, 1, 2, 3, 4, 8, 18, 35, 11, 45, 48, 9, 10], [4, 8], [], 4, s130.1, [.cell 8 true 11, .tmp 9, .tmp 10], 1⟩
theorem ok130 : FnM Tryz.prog 130 fun130 := SC.okM s130 rfl (fn := Tryz.f130) (by kernel_rfl) (by kernel_rfl)
noncomputable def s131 : SC (Tryz.f131.body.getD .skip) := SC.mk' (by simp only [Tryz.f131, go_sem]; rfl)
noncomputable def fun131 : Fun := ⟨[0, 2, 9, 3], [2], [], 1, s131.1, [.cell 2 true 2, .tmp 3], 0⟩
theorem ok131 : FnM Tryz.prog 131 fun131 := SC.okM s131 rfl (fn := Tryz.f131) (by kernel_rfl) (by kernel_rfl)
noncomputable def s132 : SC (Tryz.f132.body.getD .skip) := SC.mk' (by simp only [Tryz.f132, go_sem]; rfl)
noncomputable def fun132 : Fun := ⟨[0, 5, 11, 3, 2], [], [], 1, s132.1, [.tmp 2], 1⟩
theorem ok132 : FnM Tryz.prog 132 fun132 := SC.okM s132 rfl (fn := Tryz.f132) (by kernel_rfl) (by kernel_rfl)
noncomputable def s135 : SC (Tryz.f135.body.getD .skip) := SC.mk' (by simp only [Tryz.f135, go_sem]; rfl)
noncomputable def fun135 : Fun := ⟨[0, 1, 4, 5, 6, 2, 7, 9, 25, 37, 52, 3], [1, 2, 4, 5, 6, 9], [65, 73, 78, 94, 118], 1, s135.1, [.cell 2 true 63, .tmp 3], 10⟩
theorem ok135 : FnM Tryz.prog 135 fun135 := SC.okM s135 rfl (fn := Tryz.f135) (by kernel_rfl) (by kernel_rfl)
noncomputable def s137 : SC (Tryz.f137.body.getD .skip) := SC.mk' (by simp only [Tryz.f137, go_sem]; rfl)
noncomputable def fun137 : Fun := ⟨[0, 1, 2, 5, 10, 4], [2], [], 2, s137.1, [.tmp 4], 3⟩
theorem ok137 : FnM Tryz.prog 137 fun137 := SC.okM s137 rfl (fn := Tryz.f137) (by kernel_rfl) (by kernel_rfl)
noncomputable def s138 : SC (Tryz.f138.body.getD .skip) := SC.mk' (by simp only [Tryz.f138, go_sem]; rfl)
noncomputable def fun138 : Fun := ⟨[0, 1, 2, 4, 6, 16, 5], [2, 4], [], 2, s138.1, [.cell 4 true 3, .tmp 5], 2⟩
theorem ok138 : FnM Tryz.prog 138 fun138 := SC.okM s138 rfl (fn := Tryz.f138) (by kernel_rfl) (by kernel_rfl)
noncomputable def s139 : SC (Tryz.f139.body.getD .skip) := SC.mk' (by simp only [Tryz.f139, go_sem]; rfl)
noncomputable def fun139 : Fun := ⟨[0, 1, 2, 3, 6], [3, 6], [], 3, s139.1, [.cell 6 true 63], 2⟩
theorem ok139 : FnM Tryz.prog 139 fun139 := SC.okM s139 rfl (fn := Tryz.f139) (by kernel_rfl) (by kernel_rfl)
noncomputable def s159 : SC (Tryz.f159.body.getD .skip) := SC.mk' (by simp only [Tryz.f159, go_sem]; rfl)
noncomputable def fun159 : Fun := ⟨[0, 1, 2, 6], [], [], 3, s159.1, [.tmp 6], 0⟩
theorem ok159 : FnM Tryz.prog 159 fun159 := SC.okM s159 rfl (fn := Tryz.f159) (by kernel_rfl) (by kernel_rfl)
noncomputable def s164 : SC (Tryz.f164.body.getD .skip) := SC.mk' (by simp only [Tryz.f164, go_sem]; rfl)
noncomputable def fun164 : Fun := ⟨[0, 1, 2, 6], [], [], 3, s164.1, [.tmp 6], 0⟩
theorem ok164 : FnM Tryz.prog 164 fun164 := SC.okM s164 rfl (fn := Tryz.f164) (by kernel_rfl) (by kernel_rfl)
noncomputable def s170 : SC (Tryz.f170.body.getD .skip) := SC.mk' (by simp only [Tryz.f170, go_sem]; rfl)
noncomputable def fun170 : Fun := ⟨[0, 3, 30, 32, 47, 57, 2], [], [], 1, s170.1, [.tmp 2], 9⟩
theorem ok170 : FnM Tryz.prog 170 fun170 := SC.okM s170 rfl (fn := Tryz.f170) (by kernel_rfl) (by kernel_rfl)
noncomputable def s173 : SC (Tryz.f173.body.getD .skip) := SC.mk' (by simp only [Tryz.f173, go_sem]; rfl)
noncomputable def fun173 : Fun := ⟨[0, 3, 31, 2], [], [], 1, s173.1, [.tmp 2], 2⟩
theorem ok173 : FnM Tryz.prog 173 fun173 := SC.okM s173 rfl (fn := Tryz.f173) (by kernel_rfl) (by kernel_rfl)
noncomputable def s176 : SC (Tryz.f176.body.getD .skip) := SC.mk' (by simp only [Tryz.f176, go_sem]; rfl)
noncomputable def fun176 : Fun := ⟨[0, 3, 6, 4, 5, 44, 71, 106, 134, 156, 2], [4], [102], 1, s176.1, [.tmp 2], 11⟩
theorem ok176 : FnM Tryz.prog 176 fun176 := SC.okM s176 rfl (fn := Tryz.f176) (by kernel_rfl) (by kernel_rfl)
noncomputable def s177 : SC (Tryz.f177.body.getD .skip) := SC.mk' (by simp only [Tryz.f177, go_sem]; rfl)
noncomputable def fun177 : Fun := ⟨[0, 1, 8, 56, 3, 4, 5, 6, 54, 13, 19, 23, 36, 37, 44, 55, 57, 67, 79, 2], [1, 8], [], 1, s177.1, [.tmp 2], 6⟩
theorem ok177 : FnM Tryz.prog 177 fun177 := SC.okM s177 rfl (fn := Tryz.f177) (by kernel_rfl) (by kernel_rfl)
noncomputable def s178 : SC (Tryz.f178.body.getD .skip) := SC.mk' (by simp only [Tryz.f178, go_sem]; rfl)
noncomputable def fun178 : Fun := ⟨[0, 1, 5, 2, 9, 12, 4], [2], [], 2, s178.1, [.tmp 4], 8⟩
theorem ok178 : FnM Tryz.prog 178 fun178 := SC.okM s178 rfl (fn := Tryz.f178) (by kernel_rfl) (by kernel_rfl)
noncomputable def s189 : SC (Tryz.f189.body.getD .skip) := SC.mk' (by simp only [Tryz.f189, go_sem]; rfl)
noncomputable def fun189 : Fun := ⟨[0, 1, 2, 6, 3, 12, 8, 11, 13, 17, 9, 10, 26, 30, 43, 55, 7], [3, 6], [], 3, s189.1, [.cell 6 true 2, .tmp 7], 7⟩
theorem ok189 : FnM Tryz.prog 189 fun189 := SC.okM s189 rfl (fn := Tryz.f189) (by kernel_rfl) (by kernel_rfl)
noncomputable def s196 : SC (Tryz.f196.body.getD .skip) := SC.mk' (by simp only [Tryz.f196, go_sem]; rfl)
noncomputable def fun196 : Fun := ⟨[0, 1, 2], [1, 2], [], 1, s196.1, [.cell 2 true 6], 0⟩
theorem ok196 : FnM Tryz.prog 196 fun196 := SC.okM s196 rfl (fn := Tryz.f196) (by kernel_rfl) (by kernel_rfl)
noncomputable def s199 : SC (Tryz.f199.body.getD .skip) := SC.mk' (by simp only [Tryz.f199, go_sem]; rfl)
noncomputable def fun199 : Fun := ⟨[0, 1, 2], [1], [], 1, s199.1, [.tmp 2], 0⟩
theorem ok199 : FnM Tryz.prog 199 fun199 := SC.okM s199 rfl (fn := Tryz.f199) (by kernel_rfl) (by kernel_rfl)
noncomputable def s202 : SC (Tryz.f202.body.getD .skip) := SC.mk' (by simp only [Tryz.f202, go_sem]; rfl)
noncomputable def fun202 : Fun := ⟨[0, 1, 2, 4, 3, 6, 7, 11, 17, 20, 34, 43, 5], [2, 3, 4], [], 2, s202.1, [.cell 4 true 8, .tmp 5], 9⟩
theorem ok202 : FnM Tryz.prog 202 fun202 := SC.okM s202 rfl (fn := Tryz.f202) (by kernel_rfl) (by kernel_rfl)
noncomputable def s204 : SC (Tryz.f204.body.getD .skip) := SC.mk' (by simp only [Tryz.f204, go_sem]; rfl)
noncomputable def fun204 : Fun := ⟨[0, 1, 4, 6, 7, 14, 22, 5], [4, 6], [], 2, s204.1, [.cell 4 true 26, .tmp 5], 1⟩
theorem ok204 : FnM Tryz.prog 204 fun204 := SC.okM s204 rfl (fn := Tryz.f204) (by kernel_rfl) (by kernel_rfl)
noncomputable def s230 : SC (Tryz.f230.body.getD .skip) := SC.mk' (by simp only [Tryz.f230, go_sem]; rfl)
noncomputable def fun230 : Fun := ⟨[0, 1, 2, 3, 4, 8, 12, 13, 11, 14, 15, 20, 35, 45, 9, 10], [4, 8], [55], 4, s230.1, [.cell 8 true 8, .tmp 9, .tmp 10], 8⟩
theorem ok230 : FnM Tryz.prog 230 fun230 := SC.okM s230 rfl (fn := Tryz.f230) (by kernel_rfl) (by kernel_rfl)
noncomputable def s239 : SC (Tryz.f239.body.getD .skip) := SC.mk' (by simp only [Tryz.f239, go_sem]; rfl)
noncomputable def fun239 : Fun := ⟨[0, 1], [], [], 2, s239.1, [], 0⟩
theorem ok239 : FnM Tryz.prog 239 fun239 := SC.okM s239 rfl (fn := Tryz.f239) (by kernel_rfl) (by kernel_rfl)
noncomputable def s240 : SC (Tryz.f240.body.getD .skip) := SC.mk' (by simp only [Tryz.f240, go_sem]; rfl)
noncomputable def fun240 : Fun := ⟨[0, 1, 2, 4, 14, 5], [2, 4], [], 2, s240.1, [.cell 4 true 4, .tmp 5], 0⟩
theorem ok240 : FnM Tryz.prog 240 fun240 := SC.okM s240 rfl (fn := Tryz.f240) (by kernel_rfl) (by kernel_rfl)
noncomputable def s244 : SC (Tryz.f244.body.getD .skip) := SC.mk' (by simp only [Tryz.f244, go_sem]; rfl)
noncomputable def fun244 : Fun := ⟨[0, 4, 2], [], [], 1, s244.1, [.tmp 2], 0⟩
theorem ok244 : FnM Tryz.prog 244 fun244 := SC.okM s244 rfl (fn := Tryz.f244) (by kernel_rfl) (by kernel_rfl)
noncomputable def s247 : SC (Tryz.f247.body.getD .skip) := SC.mk' (by simp only [Tryz.f247, go_sem]; rfl)
noncomputable def fun247 : Fun := ⟨[0, 2], [], [], 1, s247.1, [.tmp 2], 0⟩
theorem ok247 : FnM Tryz.prog 247 fun247 := SC.okM s247 rfl (fn := Tryz.f247) (by kernel_rfl) (by kernel_rfl)
noncomputable def s250 : SC (Tryz.f250.body.getD .skip) := SC.mk' (by simp only [Tryz.f250, go_sem]; rfl)
noncomputable def fun250 : Fun := ⟨[0, 1, 2, 3, 4, 8, 7, 10, 11, 17, 23, 39, 9], [4, 7, 8], [], 4, s250.1, [.cell 8 true 11, .tmp 9], 7⟩
theorem ok250 : FnM Tryz.prog 250 fun250 := SC.okM s250 rfl (fn := Tryz.f250) (by kernel_rfl) (by kernel_rfl)
noncomputable def s265 : SC (Tryz.f265.body.getD .skip) := SC.mk' (by simp only [Tryz.f265, go_sem]; rfl)
noncomputable def fun265 : Fun := ⟨[0, 1, 2, 4], [2], [], 2, s265.1, [.tmp 4], 0⟩
theorem ok265 : FnM Tryz.prog 265 fun265 := SC.okM s265 rfl (fn := Tryz.f265) (by kernel_rfl) (by kernel_rfl)
noncomputable def s267 : SC (Tryz.f267.body.getD .skip) := SC.mk' (by simp only [Tryz.f267, go_sem]; rfl)
noncomputable def fun267 : Fun := ⟨[0, 4, 2], [], [], 1, s267.1, [.tmp 2], 0⟩
theorem ok267 : FnM Tryz.prog 267 fun267 := SC.okM s267 rfl (fn := Tryz.f267) (by kernel_rfl) (by kernel_rfl)
noncomputable def s273 : SC (Tryz.f273.body.getD .skip) := SC.mk' (by simp only [Tryz.f273, go_sem]; rfl)
noncomputable def fun273 : Fun := ⟨[0, 1, 2, 6, 3], [1, 2], [], 1, s273.1, [.cell 2 true 5, .tmp 3], 0⟩
theorem ok273 : FnM Tryz.prog 273 fun273 := SC.okM s273 rfl (fn := Tryz.f273) (by kernel_rfl) (by kernel_rfl)
noncomputable def s274 : SC (Tryz.f274.body.getD .skip) := SC.mk' (by simp only [Tryz.f274, go_sem]; rfl)
noncomputable def fun274 : Fun := ⟨[0, 1, 2, 3, 5, 4, 8, 9, 20, 12, 14, 17, 11, 13, 15, 16, 18, 21, 40, 46, 52, 61, 69, 87, 93, 102, 110, 119, 138, 10], [4, 5, 8, 9, 11, 12, 14, 16, 17], [], 4, s274.1, [.cell 8 true 11, .cell 9 true 26, .tmp 10], 11⟩
theorem ok274 : FnM Tryz.prog 274 fun274 := SC.okM s274 rfl (fn := Tryz.f274) (by kernel_rfl) (by kernel_rfl)
noncomputable def s280 : SC (Tryz.f280.body.getD .skip) := SC.mk' (by simp only [Tryz.f280, go_sem]; rfl)
noncomputable def fun280 : Fun := ⟨[0, 2], [], [], 1, s280.1, [.tmp 2], 0⟩
theorem ok280 : FnM Tryz.prog 280 fun280 := SC.okM s280 rfl (fn := Tryz.f280) (by kernel_rfl) (by kernel_rfl)
noncomputable def s281 : SC (Tryz.f281.body.getD .skip) := SC.mk' (by simp only [Tryz.f281, go_sem]; rfl)
noncomputable def fun281 : Fun := ⟨[0, 1, 2, 4], [2], [], 2, s281.1, [.tmp 4], 0⟩
theorem ok281 : FnM Tryz.prog 281 fun281 := SC.okM s281 rfl (fn := Tryz.f281) (by kernel_rfl) (by kernel_rfl)
noncomputable def s291 : SC (Tryz.f291.body.getD .skip) := SC.mk' (by simp only [Tryz.f291, go_sem]; rfl)
noncomputable def fun291 : Fun := ⟨[0, 2], [], [], 1, s291.1, [.tmp 2], 0⟩
theorem ok291 : FnM Tryz.prog 291 fun291 := SC.okM s291 rfl (fn := Tryz.f291) (by kernel_rfl) (by kernel_rfl)
noncomputable def s294 : SC (Tryz.f294.body.getD .skip) := SC.mk' (by simp only [Tryz.f294, go_sem]; rfl)
noncomputable def fun294 : Fun := ⟨[0, 1, 2, 9, 3, 8, 7, 10, 14, 22, 38, 6], [3], [31], 3, s294.1, [.tmp 6], 4⟩
theorem ok294 : FnM Tryz.prog 294 fun294 := SC.okM s294 rfl (fn := Tryz.f294) (by kernel_rfl) (by kernel_rfl)
noncomputable def s302 : SC (Tryz.f302.body.getD .skip) := SC.mk' (by simp only [Tryz.f302, go_sem]; rfl)
noncomputable def fun302 : Fun := ⟨[0, 1, 5, 6, 7, 12, 19, 29, 4], [], [], 2, s302.1, [.tmp 4], 7⟩
theorem ok302 : FnM Tryz.prog 302 fun302 := SC.okM s302 rfl (fn := Tryz.f302) (by kernel_rfl) (by kernel_rfl)
noncomputable def s303 : SC (Tryz.f303.body.getD .skip) := SC.mk' (by simp only [Tryz.f303, go_sem]; rfl)
noncomputable def fun303 : Fun := ⟨[0, 1, 3], [], [], 2, s303.1, [.tmp 3], 0⟩
theorem ok303 : FnM Tryz.prog 303 fun303 := SC.okM s303 rfl (fn := Tryz.f303) (by kernel_rfl) (by kernel_rfl)
noncomputable def s304 : SC (Tryz.f304.body.getD .skip) := SC.mk' (by simp only [Tryz.f304, go_sem]; rfl)
noncomputable def fun304 : Fun := ⟨[0, 2], [], [], 1, s304.1, [.tmp 2], 0⟩
theorem ok304 : FnM Tryz.prog 304 fun304 := SC.okM s304 rfl (fn := Tryz.f304) (by kernel_rfl) (by kernel_rfl)
noncomputable def s309 : SC (Tryz.f309.body.getD .skip) := SC.mk' (by simp only [Tryz.f309, go_sem]; rfl)
noncomputable def fun309 : Fun := ⟨[0, 2], [], [], 1, s309.1, [.tmp 2], 1⟩
theorem ok309 : FnM Tryz.prog 309 fun309 := SC.okM s309 rfl (fn := Tryz.f309) (by kernel_rfl) (by kernel_rfl)
noncomputable def s316 : SC (Tryz.f316.body.getD .skip) := SC.mk' (by simp only [Tryz.f316, go_sem]; rfl)
noncomputable def fun316 : Fun := ⟨[0, 1, 2, 3, 24, 9, 45, 6, 7, 22, 43, 11, 19, 23, 25, 37, 44, 46, 53], [3, 9, 11], [], 3, s316.1, [.tmp 6, .tmp 7], 9⟩
theorem ok316 : FnM Tryz.prog 316 fun316 := SC.okM s316 rfl (fn := Tryz.f316) (by kernel_rfl) (by kernel_rfl)
noncomputable def s318 : SC (Tryz.f318.body.getD .skip) := SC.mk' (by simp only [Tryz.f318, go_sem]; rfl)
noncomputable def fun318 : Fun := ⟨[0, 1, 38, 42, 2], [1], [], 1, s318.1, [.tmp 2], 1⟩
theorem ok318 : FnM Tryz.prog 318 fun318 := SC.okM s318 rfl (fn := Tryz.f318) (by kernel_rfl) (by kernel_rfl)
noncomputable def s329 : SC (Tryz.f329.body.getD .skip) := SC.mk' (by simp only [Tryz.f329, go_sem]; rfl)
noncomputable def fun329 : Fun := ⟨[0, 1, 2], [1], [], 1, s329.1, [.tmp 2], 0⟩
theorem ok329 : FnM Tryz.prog 329 fun329 := SC.okM s329 rfl (fn := Tryz.f329) (by kernel_rfl) (by kernel_rfl)
noncomputable def s334 : SC (Tryz.f334.body.getD .skip) := SC.mk' (by simp only [Tryz.f334, go_sem]; rfl)
noncomputable def fun334 : Fun := ⟨[0, 1, 3, 2, 7, 9, 4, 5, 8, 21, 48, 6], [2, 3, 4, 5, 9], [33], 2, s334.1, [.cell 4 true 11, .cell 5 true 26, .tmp 6], 2⟩
theorem ok334 : FnM Tryz.prog 334 fun334 := SC.okM s334 rfl (fn := Tryz.f334) (by kernel_rfl) (by kernel_rfl)
noncomputable def s338 : SC (Tryz.f338.body.getD .skip) := SC.mk' (by simp only [Tryz.f338, go_sem]; rfl)
noncomputable def fun338 : Fun := ⟨[0, 1, 2, 4, 3, 9, 12, 6, 7, 10, 11, 22, 45, 63, 76, 8], [3, 4, 6, 7, 10], [41], 3, s338.1, [.cell 6 true 11, .cell 7 true 26, .tmp 8], 10⟩
theorem ok338 : FnM Tryz.prog 338 fun338 := SC.okM s338 rfl (fn := Tryz.f338) (by kernel_rfl) (by kernel_rfl)
noncomputable def s340 : SC (Tryz.f340.body.getD .skip) := SC.mk' (by simp only [Tryz.f340, go_sem]; rfl)
noncomputable def fun340 : Fun := ⟨[0, 1, 2, 7, 8, 3, 6, 20], [3, 6, 7], [], 3, s340.1, [.cell 6 true 3], 0⟩
theorem ok340 : FnM Tryz.prog 340 fun340 := SC.okM s340 rfl (fn := Tryz.f340) (by kernel_rfl) (by kernel_rfl)
noncomputable def s343 : SC (Tryz.f343.body.getD .skip) := SC.mk' (by simp only [Tryz.f343, go_sem]; rfl)
noncomputable def fun343 : Fun := ⟨[0, 1, 2, 3, 6, 4, 10, 8, 9, 17, 23, 26, 31, 39, 45, 68, 11, 13, 7], [3, 4, 6], [85], 3, s343.1, [.cell 6 true 2, .tmp 7], 3⟩
theorem ok343 : FnM Tryz.prog 343 fun343 := SC.okM s343 rfl (fn := Tryz.f343) (by kernel_rfl) (by kernel_rfl)
noncomputable def s349 : SC (Tryz.f349.body.getD .skip) := SC.mk' (by simp only [Tryz.f349, go_sem]; rfl)
noncomputable def fun349 : Fun := ⟨[0, 1, 5, 21, 4], [], [], 2, s349.1, [.tmp 4], 3⟩
theorem ok349 : FnM Tryz.prog 349 fun349 := SC.okM s349 rfl (fn := Tryz.f349) (by kernel_rfl) (by kernel_rfl)
noncomputable def s356 : SC (Tryz.f356.body.getD .skip) := SC.mk' (by simp only [Tryz.f356, go_sem]; rfl)
noncomputable def fun356 : Fun := ⟨[0, 1, 2, 3, 6, 9, 10, 23, 26, 7, 8], [3, 6], [], 3, s356.1, [.cell 6 true 11, .tmp 7, .tmp 8], 2⟩
theorem ok356 : FnM Tryz.prog 356 fun356 := SC.okM s356 rfl (fn := Tryz.f356) (by kernel_rfl) (by kernel_rfl)
noncomputable def s363 : SC (Tryz.f363.body.getD .skip) := SC.mk' (by simp only [Tryz.f363, go_sem]; rfl)
noncomputable def fun363 : Fun := ⟨[0, 1, 2, 6], [], [], 3, s363.1, [.tmp 6], 0⟩
theorem ok363 : FnM Tryz.prog 363 fun363 := SC.okM s363 rfl (fn := Tryz.f363) (by kernel_rfl) (by kernel_rfl)
noncomputable def s365 : SC (Tryz.f365.body.getD .skip) := SC.mk' (by simp only [Tryz.f365, go_sem]; rfl)
noncomputable def fun365 : Fun := ⟨[0, 1, 2], [1], [], 1, s365.1, [.tmp 2], 1⟩
theorem ok365 : FnM Tryz.prog 365 fun365 := SC.okM s365 rfl (fn := Tryz.f365) (by kernel_rfl) (by kernel_rfl)
noncomputable def s368 : SC (Tryz.f368.body.getD .skip) := SC.mk' (by simp only [Tryz.f368, go_sem]; rfl)
noncomputable def fun368 : Fun := ⟨[0, 1, 2, 16, 7, 6], [], [], 3, s368.1, [.tmp 6], 0⟩
theorem ok368 : FnM Tryz.prog 368 fun368 := SC.okM s368 rfl (fn := Tryz.f368) (by kernel_rfl) (by kernel_rfl)
noncomputable def s372 : SC (Tryz.f372.body.getD .skip) := SC.mk' (by simp only [Tryz.f372, go_sem]; rfl)
noncomputable def fun372 : Fun := ⟨[0, 1, 8, 5, 7, 9, 16, 4], [], [], 2, s372.1, [.tmp 4], 2⟩
theorem ok372 : FnM Tryz.prog 372 fun372 := SC.okM s372 rfl (fn := Tryz.f372) (by kernel_rfl) (by kernel_rfl)
noncomputable def s377 : SC (Tryz.f377.body.getD .skip) := SC.mk' (by simp only [Tryz.f377, go_sem]; rfl)
noncomputable def fun377 : Fun := ⟨[0, 1, 2, 4, 14, 20, 3], [1, 2], [], 1, s377.1, [.cell 2 true 4, .tmp 3], 0⟩
theorem ok377 : FnM Tryz.prog 377 fun377 := SC.okM s377 rfl (fn := Tryz.f377) (by kernel_rfl) (by kernel_rfl)
noncomputable def s378 : SC (Tryz.f378.body.getD .skip) := SC.mk' (by simp only [Tryz.f378, go_sem]; rfl)
noncomputable def fun378 : Fun := ⟨[0, 1, 2, 3, 4, 7, 8, 10, 16, 40, 9], [4, 7, 8], [], 4, s378.1, [.cell 8 true 11, .tmp 9], 2⟩
theorem ok378 : FnM Tryz.prog 378 fun378 := SC.okM s378 rfl (fn := Tryz.f378) (by kernel_rfl) (by kernel_rfl)
noncomputable def s386 : SC (Tryz.f386.body.getD .skip) := SC.mk' (by simp only [Tryz.f386, go_sem]; rfl)
noncomputable def fun386 : Fun := ⟨[0, 1, 2, 3, 8, 4, 5, 10, 20, 25, 30, 46, 11, 12, 9], [4, 5, 8], [], 4, s386.1, [.cell 8 true 4, .tmp 9], 9⟩
theorem ok386 : FnM Tryz.prog 386 fun386 := SC.okM s386 rfl (fn := Tryz.f386) (by kernel_rfl) (by kernel_rfl)
noncomputable def s388 : SC (Tryz.f388.body.getD .skip) := SC.mk' (by simp only [Tryz.f388, go_sem]; rfl)
noncomputable def fun388 : Fun := ⟨[0, 1, 19, 4], [], [], 2, s388.1, [.tmp 4], 1⟩
theorem ok388 : FnM Tryz.prog 388 fun388 := SC.okM s388 rfl (fn := Tryz.f388) (by kernel_rfl) (by kernel_rfl)
noncomputable def s394 : SC (Tryz.f394.body.getD .skip) := SC.mk' (by simp only [Tryz.f394, go_sem]; rfl)
noncomputable def fun394 : Fun := ⟨[0, 1, 2, 6, 16, 4, 5], [2], [], 2, s394.1, [.tmp 4, .tmp 5], 0⟩
theorem ok394 : FnM Tryz.prog 394 fun394 := SC.okM s394 rfl (fn := Tryz.f394) (by kernel_rfl) (by kernel_rfl)
noncomputable def s398 : SC (Tryz.f398.body.getD .skip) := SC.mk' (by simp only [Tryz.f398, go_sem]; rfl)
noncomputable def fun398 : Fun := ⟨[0, 1, 8, 5, 3, 7, 9, 16, 4], [3], [], 2, s398.1, [.tmp 4], 0⟩
theorem ok398 : FnM Tryz.prog 398 fun398 := SC.okM s398 rfl (fn := Tryz.f398) (by kernel_rfl) (by kernel_rfl)
end Go.M
