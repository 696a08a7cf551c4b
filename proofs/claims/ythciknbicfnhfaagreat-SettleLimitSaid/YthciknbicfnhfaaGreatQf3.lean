/-
  The codes of functions, as the machine takes them.
  No condition: definitions and lemmas.
-/
import Derived.Test.YthciknbicfnhfaaGreatQty
set_option linter.all false
set_option maxRecDepth 100000
set_option maxHeartbeats 4000000
namespace Go.M
open Go Go.Proofs
open Go.Eng (SOp SOper SCode sizeP aggP zerosOf bytesP zeroVal stripCode stripOps stripOper strip stripParts kindsOf)

noncomputable def s4 : SC (Tryz.f4.body.getD .skip) := SC.mk' (by simp only [Tryz.f4, go_sem]; rfl)
noncomputable def fun4 : Fun := ⟨[0, 5, 6, 3, 12, 4, 7, 8, 9, 13, 24, 30, 11, 77, 86, 109, 112, 2], [4, 5, 7, 8], [], 1, s4.1, [.tmp 2], 20⟩
theorem ok4 : FnM Tryz.prog 4 fun4 := SC.okM s4 rfl (fn := Tryz.f4) (by kernel_rfl) (by kernel_rfl)
noncomputable def s9 : SC (Tryz.f9.body.getD .skip) := SC.mk' (by simp only [Tryz.f9, go_sem]; rfl)
noncomputable def fun9 : Fun := ⟨[0, 1, 2, 3, 12, 15, 4, 17, 8, 14, 16, 5, 6, 33, 18, 19, 53, 9, 10, 11], [4, 5, 6, 8, 12, 16, 17], [], 4, s9.1, [.cell 8 true 11, .tmp 9, .tmp 10, .tmp 11], 16⟩
theorem ok9 : FnM Tryz.prog 9 fun9 := SC.okM s9 rfl (fn := Tryz.f9) (by kernel_rfl) (by kernel_rfl)
noncomputable def s13 : SC (Tryz.f13.body.getD .skip) := SC.mk' (by simp only [Tryz.f13, go_sem]; rfl)
noncomputable def fun13 : Fun := ⟨[1, 2, 3, 5, 4, 9, 7, 11, 0], [1, 2, 3, 4, 8], [], 0, s13.1, [.tmp 0], 19⟩
theorem ok13 : FnM Tryz.prog 13 fun13 := SC.okM s13 rfl (fn := Tryz.f13) (by kernel_rfl) (by kernel_rfl)
noncomputable def s21 : SC (Tryz.f21.body.getD .skip) := SC.mk' (by simp only [Tryz.f21, go_sem]; rfl)
noncomputable def fun21 : Fun := ⟨[0, 1, 2, 4, 5, 12, 3], [1, 2, 4], [], 1, s21.1, [.cell 2 true 23, .tmp 3], 3⟩
theorem ok21 : FnM Tryz.prog 21 fun21 := SC.okM s21 rfl (fn := Tryz.f21) (by kernel_rfl) (by kernel_rfl)
noncomputable def s22 : SC (Tryz.f22.body.getD .skip) := SC.mk' (by simp only [Tryz.f22, go_sem]; rfl)
noncomputable def fun22 : Fun := ⟨[0, 1, 2, 3, 8, 6, 5, 11, 12, 22, 30, 37, 9], [5, 6, 8, 10], [], 4, s22.1, [.cell 8 true 63, .tmp 9], 3⟩
theorem ok22 : FnM Tryz.prog 22 fun22 := SC.okM s22 rfl (fn := Tryz.f22) (by kernel_rfl) (by kernel_rfl)
noncomputable def s23 : SC (Tryz.f23.body.getD .skip) := SC.mk' (by simp only [Tryz.f23, go_sem]; rfl)
noncomputable def fun23 : Fun := ⟨[0, 1, 2, 4, 3, 6, 7, 26, 10, 11, 13, 17, 12, 27, 36, 53, 65, 8, 9], [3, 4, 6, 7], [], 3, s23.1, [.cell 6 true 11, .cell 7 true 63, .tmp 8, .tmp 9], 15⟩
theorem ok23 : FnM Tryz.prog 23 fun23 := SC.okM s23 rfl (fn := Tryz.f23) (by kernel_rfl) (by kernel_rfl)
noncomputable def s26 : SC (Tryz.f26.body.getD .skip) := SC.mk' (by simp only [Tryz.f26, go_sem]; rfl)
noncomputable def fun26 : Fun := ⟨[0, 1, 4], [], [], 2, s26.1, [.tmp 4], 0⟩
theorem ok26 : FnM Tryz.prog 26 fun26 := SC.okM s26 rfl (fn := Tryz.f26) (by kernel_rfl) (by kernel_rfl)
noncomputable def s30 : SC (Tryz.f30.body.getD .skip) := SC.mk' (by simp only [Tryz.f30, go_sem]; rfl)
noncomputable def fun30 : Fun := ⟨[0, 4, 1, 6, 7, 8, 3, 5, 19, 2], [1], [33], 1, s30.1, [.tmp 2], 1⟩
theorem ok30 : FnM Tryz.prog 30 fun30 := SC.okM s30 rfl (fn := Tryz.f30) (by kernel_rfl) (by kernel_rfl)
noncomputable def s31 : SC (Tryz.f31.body.getD .skip) := SC.mk' (by simp only [Tryz.f31, go_sem]; rfl)
noncomputable def fun31 : Fun := ⟨[0, 1, 2, 8, 6, 11, 4, 7, 10, 9, 30, 61, 5], [2, 4, 6, 7, 8], [66], 2, s31.1, [.cell 4 true 23, .tmp 5], 16⟩
theorem ok31 : FnM Tryz.prog 31 fun31 := SC.okM s31 rfl (fn := Tryz.f31) (by kernel_rfl) (by kernel_rfl)
noncomputable def s37 : SC (Tryz.f37.body.getD .skip) := SC.mk' (by simp only [Tryz.f37, go_sem]; rfl)
noncomputable def fun37 : Fun := ⟨[0, 1, 2, 11, 5, 6, 63, 86, 3, 38, 109, 129, 12, 23, 28, 37, 62, 76, 85, 108, 116, 117, 128, 4], [2, 3], [], 2, s37.1, [.tmp 4], 1⟩
theorem ok37 : FnM Tryz.prog 37 fun37 := SC.okM s37 rfl (fn := Tryz.f37) (by kernel_rfl) (by kernel_rfl)
noncomputable def s39 : SC (Tryz.f39.body.getD .skip) := SC.mk' (by simp only [Tryz.f39, go_sem]; rfl)
noncomputable def fun39 : Fun := ⟨[0, 1, 3, 6, 2], [1], [], 1, s39.1, [.tmp 2], 1⟩
theorem ok39 : FnM Tryz.prog 39 fun39 := SC.okM s39 rfl (fn := Tryz.f39) (by kernel_rfl) (by kernel_rfl)
noncomputable def s40 : SC (Tryz.f40.body.getD .skip) := SC.mk' (by simp only [Tryz.f40, go_sem]; rfl)
noncomputable def fun40 : Fun := ⟨[0, 1, 2, 7, 4, 8, 9, 22, 44, 5, 6], [2, 4, 7], [29, 34], 2, s40.1, [.cell 4 true 63, .tmp 5, .tmp 6], 4⟩
theorem ok40 : FnM Tryz.prog 40 fun40 := SC.okM s40 rfl (fn := Tryz.f40) (by kernel_rfl) (by kernel_rfl)
noncomputable def s43 : SC (Tryz.f43.body.getD .skip) := SC.mk' (by simp only [Tryz.f43, go_sem]; rfl)
noncomputable def fun43 : Fun := ⟨[0, 1, 2, 4, 3], [1, 2], [], 1, s43.1, [.cell 2 true 63, .tmp 3], 3⟩
theorem ok43 : FnM Tryz.prog 43 fun43 := SC.okM s43 rfl (fn := Tryz.f43) (by kernel_rfl) (by kernel_rfl)
noncomputable def s62 : SC (Tryz.f62.body.getD .skip) := SC.mk' (by simp only [Tryz.f62, go_sem]; rfl)
noncomputable def fun62 : Fun := ⟨[0, 1, 6, 7, 4, 8, 19, 24, 46, 5], [4, 6], [], 2, s62.1, [.cell 4 true 3, .tmp 5], 0⟩
theorem ok62 : FnM Tryz.prog 62 fun62 := SC.okM s62 rfl (fn := Tryz.f62) (by kernel_rfl) (by kernel_rfl)
noncomputable def s63 : SC (Tryz.f63.body.getD .skip) := SC.mk' (by simp only [Tryz.f63, go_sem]; rfl)
noncomputable def fun63 : Fun := ⟨[0, 2, 4, 5, 12, 3], [2, 4], [], 1, s63.1, [.cell 2 true 8, .tmp 3], 1⟩
theorem ok63 : FnM Tryz.prog 63 fun63 := SC.okM s63 rfl (fn := Tryz.f63) (by kernel_rfl) (by kernel_rfl)
noncomputable def s67 : SC (Tryz.f67.body.getD .skip) := SC.mk' (by simp only [Tryz.f67, go_sem]; rfl)
noncomputable def fun67 : Fun := ⟨[0, 5, 1, 6, 8, 10, 2], [1], [], 1, s67.1, [.tmp 2], 0⟩
theorem ok67 : FnM Tryz.prog 67 fun67 := SC.okM s67 rfl (fn := Tryz.f67) (by kernel_rfl) (by kernel_rfl)
noncomputable def s79 : SC (Tryz.f79.body.getD .skip) := SC.mk' (by simp only [Tryz.f79, go_sem]; rfl)
noncomputable def fun79 : Fun := ⟨[0, 4, 3, 8, 2], [], [], 1, s79.1, [.tmp 2], 0⟩
theorem ok79 : FnM Tryz.prog 79 fun79 := SC.okM s79 rfl (fn := Tryz.f79) (by kernel_rfl) (by kernel_rfl)
noncomputable def s86 : SC (Tryz.f86.body.getD .skip) := SC.mk' (by simp only [Tryz.f86, go_sem]; rfl)
noncomputable def fun86 : Fun := ⟨[0, 1, 2, 4, 6, 7, 13, 3, 105, 10, 30, 11, 16, 17, 22, 31, 64, 14, 15, 84, 91, 18, 101, 106, 113, 120, 8, 9], [3, 4, 6, 7, 11, 13, 17], [], 3, s86.1, [.cell 6 true 11, .cell 7 true 63, .tmp 8, .tmp 9], 14⟩
theorem ok86 : FnM Tryz.prog 86 fun86 := SC.okM s86 rfl (fn := Tryz.f86) (by kernel_rfl) (by kernel_rfl)
noncomputable def s87 : SC (Tryz.f87.body.getD .skip) := SC.mk' (by simp only [Tryz.f87, go_sem]; rfl)
noncomputable def fun87 : Fun := ⟨[0, 1, 2, 4, 6, 7, 3, 14, 20, 11, 13, 10, 32, 17, 18, 24, 33, 12, 47, 71, 79, 15, 16, 99, 106, 19, 116, 128, 141, 8, 9], [3, 4, 6, 7, 11, 14, 18, 20], [52, 54, 60], 3, s87.1, [.cell 6 true 11, .cell 7 true 63, .tmp 8, .tmp 9], 14⟩
theorem ok87 : FnM Tryz.prog 87 fun87 := SC.okM s87 rfl (fn := Tryz.f87) (by kernel_rfl) (by kernel_rfl)
noncomputable def s96 : SC (Tryz.f96.body.getD .skip) := SC.mk' (by simp only [Tryz.f96, go_sem]; rfl)
noncomputable def fun96 : Fun := ⟨[0, 1, 38, 42, 2], [1], [], 1, s96.1, [.tmp 2], 1⟩
theorem ok96 : FnM Tryz.prog 96 fun96 := SC.okM s96 rfl (fn := Tryz.f96) (by kernel_rfl) (by kernel_rfl)
noncomputable def s102 : SC (Tryz.f102.body.getD .skip) := SC.mk' (by simp only [Tryz.f102, go_sem]; rfl)
noncomputable def fun102 : Fun := ⟨[0, 2, 9, 3], [2], [], 1, s102.1, [.cell 2 true 3, .tmp 3], 0⟩
theorem ok102 : FnM Tryz.prog 102 fun102 := SC.okM s102 rfl (fn := Tryz.f102) (by kernel_rfl) (by kernel_rfl)
noncomputable def s104 : SC (Tryz.f104.body.getD .skip) := SC.mk' (by simp only [Tryz.f104, go_sem]; rfl)
noncomputable def fun104 : Fun := ⟨[0, 1, 4, 44, 6, 28, 43, 45, 2, 3], [1, 6], [], 1, s104.1, [.tmp 2, .tmp 3], 2⟩
theorem ok104 : FnM Tryz.prog 104 fun104 := SC.okM s104 rfl (fn := Tryz.f104) (by kernel_rfl) (by kernel_rfl)
noncomputable def s106 : SC (Tryz.f106.body.getD .skip) := SC.mk' (by simp only [Tryz.f106, go_sem]; rfl)
noncomputable def fun106 : Fun := ⟨[0, 2], [], [], 1, s106.1, [.tmp 2], 0⟩
theorem ok106 : FnM Tryz.prog 106 fun106 := SC.okM s106 rfl (fn := Tryz.f106) (by kernel_rfl) (by kernel_rfl)
noncomputable def s113 : SC (Tryz.f113.body.getD .skip) := SC.mk' (by simp only [Tryz.f113, go_sem]; rfl)
noncomputable def fun113 : Fun := ⟨[0, 17, 2, 5, 15, 4, 13, 16, 18, 40, 3], [2], [], 1, s113.1, [.cell 2 true 5, .tmp 3], 1⟩
theorem ok113 : FnM Tryz.prog 113 fun113 := SC.okM s113 rfl (fn := Tryz.f113) (by kernel_rfl) (by kernel_rfl)
noncomputable def s114 : SC (Tryz.f114.body.getD .skip) := SC.mk' (by simp only [Tryz.f114, go_sem]; rfl)
noncomputable def fun114 : Fun := ⟨[0], [0], [], 0, s114.1, [.cell 0 true 4], 0⟩
theorem ok114 : FnM Tryz.prog 114 fun114 := SC.okM s114 rfl (fn := Tryz.f114) (by kernel_rfl) (by kernel_rfl)
noncomputable def s115 : SC (Tryz.f115.body.getD .skip) := SC.mk' (by simp only [Tryz.f115, go_sem]; rfl)
noncomputable def fun115 : Fun := ⟨[0, 3, 4, 5, 35, 2], [], [], 1, s115.1, [.tmp 2], 12⟩
theorem ok115 : FnM Tryz.prog 115 fun115 := SC.okM s115 rfl (fn := Tryz.f115) (by kernel_rfl) (by kernel_rfl)
noncomputable def s116 : SC (Tryz.f116.body.getD .skip) := SC.mk' (by simp only [Tryz.f116, go_sem]; rfl)
noncomputable def fun116 : Fun := ⟨[0, 1, 3, 7, 11, 2], [1], [], 1, s116.1, [.tmp 2], 7⟩
theorem ok116 : FnM Tryz.prog 116 fun116 := SC.okM s116 rfl (fn := Tryz.f116) (by kernel_rfl) (by kernel_rfl)
noncomputable def s118 : SC (Tryz.f118.body.getD .skip) := SC.mk' (by simp only [Tryz.f118, go_sem]; rfl)
noncomputable def fun118 : Fun := ⟨[0, 1, 2, 3, 4, 8, 5, 10, 21, 29, 12, 9], [4, 5, 8, 11], [], 4, s118.1, [.cell 8 true 8, .tmp 9], 9⟩
theorem ok118 : FnM Tryz.prog 118 fun118 := SC.okM s118 rfl (fn := Tryz.f118) (by kernel_rfl) (by kernel_rfl)
noncomputable def s126 : SC (Tryz.f126.body.getD .skip) := SC.mk' (by simp only [Tryz.f126, go_sem]; rfl)
noncomputable def fun126 : Fun := ⟨[0, 1, 2, 3, 8, 20, 6], [3], [], 3, s126.1, [.tmp 6], 0⟩
theorem ok126 : FnM Tryz.prog 126 fun126 := SC.okM s126 rfl (fn := Tryz.f126) (by kernel_rfl) (by kernel_rfl)
noncomputable def s130 : SC (Tryz.f130.body.getD .skip) := SC.mk' (by simp only [Tryz.f130, go_sem]; rfl)
noncomputable def fun130 : Fun := ⟨[0, 1, 2, 3, 4, 8, 18, 35, 11, 45, 48, 9, 10], [4, 8], [], 4, s130.1, [.cell 8 true 11, .tmp 9, .tmp 10], 1⟩
theorem ok130 : FnM Tryz.prog 130 fun130 := SC.okM s130 rfl (fn := Tryz.f130) (by kernel_rfl) (by kernel_rfl)
noncomputable def s132 : SC (Tryz.f132.body.getD .skip) := SC.mk' (by simp only [Tryz.f132, go_sem]; rfl)
noncomputable def fun132 : Fun := ⟨[0, 5, 11, 3, 2], [], [], 1, s132.1, [.tmp 2], 1⟩
theorem ok132 : FnM Tryz.prog 132 fun132 := SC.okM s132 rfl (fn := Tryz.f132) (by kernel_rfl) (by kernel_rfl)
noncomputable def s134 : SC (Tryz.f134.body.getD .skip) := SC.mk' (by simp only [Tryz.f134, go_sem]; rfl)
noncomputable def fun134 : Fun := ⟨[0, 1, 2, 4, 12, 6, 7, 11, 13, 3, 26, 8, 9, 10], [3, 4, 6, 7, 11, 12], [], 3, s134.1, [.cell 6 true 11, .cell 7 true 63, .tmp 8, .tmp 9, .tmp 10], 13⟩
theorem ok134 : FnM Tryz.prog 134 fun134 := SC.okM s134 rfl (fn := Tryz.f134) (by kernel_rfl) (by kernel_rfl)
noncomputable def s138 : SC (Tryz.f138.body.getD .skip) := SC.mk' (by simp only [Tryz.f138, go_sem]; rfl)
noncomputable def fun138 : Fun := ⟨[0, 1, 2, 4, 6, 16, 5], [2, 4], [], 2, s138.1, [.cell 4 true 3, .tmp 5], 2⟩
theorem ok138 : FnM Tryz.prog 138 fun138 := SC.okM s138 rfl (fn := Tryz.f138) (by kernel_rfl) (by kernel_rfl)
noncomputable def s140 : SC (Tryz.f140.body.getD .skip) := SC.mk' (by simp only [Tryz.f140, go_sem]; rfl)
noncomputable def fun140 : Fun := ⟨[0, 1, 6, 5, 9, 4, 8, 10, 11, 13, 14, 2, 12, 7, 29, 43, 59, 65, 89, 106, 114, 143, 3], [1, 2, 4, 5, 6, 7, 11, 14], [48], 1, s140.1, [.cell 2 true 63, .tmp 3], 10⟩
theorem ok140 : FnM Tryz.prog 140 fun140 := SC.okM s140 rfl (fn := Tryz.f140) (by kernel_rfl) (by kernel_rfl)
noncomputable def s142 : SC (Tryz.f142.body.getD .skip) := SC.mk' (by simp only [Tryz.f142, go_sem]; rfl)
noncomputable def fun142 : Fun := ⟨[0, 3, 4, 6, 2], [], [], 1, s142.1, [.tmp 2], 0⟩
theorem ok142 : FnM Tryz.prog 142 fun142 := SC.okM s142 rfl (fn := Tryz.f142) (by kernel_rfl) (by kernel_rfl)
noncomputable def s144 : SC (Tryz.f144.body.getD .skip) := SC.mk' (by simp only [Tryz.f144, go_sem]; rfl)
noncomputable def fun144 : Fun := ⟨[0, 1, 2, 4], [2], [], 2, s144.1, [.tmp 4], 8⟩
theorem ok144 : FnM Tryz.prog 144 fun144 := SC.okM s144 rfl (fn := Tryz.f144) (by kernel_rfl) (by kernel_rfl)
noncomputable def s154 : SC (Tryz.f154.body.getD .skip) := SC.mk' (by simp only [Tryz.f154, go_sem]; rfl)
noncomputable def fun154 : Fun := ⟨[0, 1, 2, 3, 4], [2, 3, 4], [], 2, s154.1, [.cell 4 true 63], 4⟩
theorem ok154 : FnM Tryz.prog 154 fun154 := SC.okM s154 rfl (fn := Tryz.f154) (by kernel_rfl) (by kernel_rfl)
noncomputable def s159 : SC (Tryz.f159.body.getD .skip) := SC.mk' (by simp only [Tryz.f159, go_sem]; rfl)
noncomputable def fun159 : Fun := ⟨[0, 1, 2, 6], [], [], 3, s159.1, [.tmp 6], 0⟩
theorem ok159 : FnM Tryz.prog 159 fun159 := SC.okM s159 rfl (fn := Tryz.f159) (by kernel_rfl) (by kernel_rfl)
noncomputable def s164 : SC (Tryz.f164.body.getD .skip) := SC.mk' (by simp only [Tryz.f164, go_sem]; rfl)
noncomputable def fun164 : Fun := ⟨[0, 1, 2, 6], [], [], 3, s164.1, [.tmp 6], 0⟩
theorem ok164 : FnM Tryz.prog 164 fun164 := SC.okM s164 rfl (fn := Tryz.f164) (by kernel_rfl) (by kernel_rfl)
noncomputable def s166 : SC (Tryz.f166.body.getD .skip) := SC.mk' (by simp only [Tryz.f166, go_sem]; rfl)
noncomputable def fun166 : Fun := ⟨[0, 2], [], [], 1, s166.1, [.tmp 2], 1⟩
theorem ok166 : FnM Tryz.prog 166 fun166 := SC.okM s166 rfl (fn := Tryz.f166) (by kernel_rfl) (by kernel_rfl)
noncomputable def s169 : SC (Tryz.f169.body.getD .skip) := SC.mk' (by simp only [Tryz.f169, go_sem]; rfl)
noncomputable def fun169 : Fun := ⟨[0, 4, 2], [], [], 1, s169.1, [.tmp 2], 0⟩
theorem ok169 : FnM Tryz.prog 169 fun169 := SC.okM s169 rfl (fn := Tryz.f169) (by kernel_rfl) (by kernel_rfl)
noncomputable def s173 : SC (Tryz.f173.body.getD .skip) := SC.mk' (by simp only [Tryz.f173, go_sem]; rfl)
noncomputable def fun173 : Fun := ⟨[0, 3, 31, 2], [], [], 1, s173.1, [.tmp 2], 2⟩
theorem ok173 : FnM Tryz.prog 173 fun173 := SC.okM s173 rfl (fn := Tryz.f173) (by kernel_rfl) (by kernel_rfl)
noncomputable def s177 : SC (Tryz.f177.body.getD .skip) := SC.mk' (by simp only [Tryz.f177, go_sem]; rfl)
noncomputable def fun177 : Fun := ⟨[0, 1, 8, 56, 3, 4, 5, 6, 54, 13, 19, 23, 36, 37, 44, 55, 57, 67, 79, 2], [1, 8], [], 1, s177.1, [.tmp 2], 6⟩
theorem ok177 : FnM Tryz.prog 177 fun177 := SC.okM s177 rfl (fn := Tryz.f177) (by kernel_rfl) (by kernel_rfl)
noncomputable def s180 : SC (Tryz.f180.body.getD .skip) := SC.mk' (by simp only [Tryz.f180, go_sem]; rfl)
noncomputable def fun180 : Fun := ⟨[0, 2], [], [], 1, s180.1, [.tmp 2], 1⟩
theorem ok180 : FnM Tryz.prog 180 fun180 := SC.okM s180 rfl (fn := Tryz.f180) (by kernel_rfl) (by kernel_rfl)
noncomputable def s184 : SC (Tryz.f184.body.getD .skip) := SC.mk' (by simp only [Tryz.f184, go_sem]; rfl)
noncomputable def fun184 : Fun := ⟨[0, 1, 2, 4], [2], [], 2, s184.1, [.tmp 4], 0⟩
theorem ok184 : FnM Tryz.prog 184 fun184 := SC.okM s184 rfl (fn := Tryz.f184) (by kernel_rfl) (by kernel_rfl)
noncomputable def s186 : SC (Tryz.f186.body.getD .skip) := SC.mk' (by simp only [Tryz.f186, go_sem]; rfl)
noncomputable def fun186 : Fun := ⟨[0, 1, 2, 3, 4, 6, 11, 5], [2, 3, 4], [], 2, s186.1, [.cell 4 true 3, .tmp 5], 4⟩
theorem ok186 : FnM Tryz.prog 186 fun186 := SC.okM s186 rfl (fn := Tryz.f186) (by kernel_rfl) (by kernel_rfl)
noncomputable def s197 : SC (Tryz.f197.body.getD .skip) := SC.mk' (by simp only [Tryz.f197, go_sem]; rfl)
noncomputable def fun197 : Fun := ⟨[0, 1, 5, 2, 4], [2, 4, 5], [], 2, s197.1, [.cell 4 true 10], 0⟩
theorem ok197 : FnM Tryz.prog 197 fun197 := SC.okM s197 rfl (fn := Tryz.f197) (by kernel_rfl) (by kernel_rfl)
noncomputable def s201 : SC (Tryz.f201.body.getD .skip) := SC.mk' (by simp only [Tryz.f201, go_sem]; rfl)
noncomputable def fun201 : Fun := ⟨[0, 1, 2, 25, 33, 6], [], [], 3, s201.1, [.tmp 6], 0⟩
theorem ok201 : FnM Tryz.prog 201 fun201 := SC.okM s201 rfl (fn := Tryz.f201) (by kernel_rfl) (by kernel_rfl)
noncomputable def s202 : SC (Tryz.f202.body.getD .skip) := SC.mk' (by simp only [Tryz.f202, go_sem]; rfl)
noncomputable def fun202 : Fun := ⟨[0, 1, 2, 4, 3, 6, 7, 11, 17, 20, 34, 43, 5], [2, 3, 4], [], 2, s202.1, [.cell 4 true 8, .tmp 5], 9⟩
theorem ok202 : FnM Tryz.prog 202 fun202 := SC.okM s202 rfl (fn := Tryz.f202) (by kernel_rfl) (by kernel_rfl)
noncomputable def s203 : SC (Tryz.f203.body.getD .skip) := SC.mk' (by simp only [Tryz.f203, go_sem]; rfl)
noncomputable def fun203 : Fun := ⟨[0, 1, 2, 18, 26, 4], [2], [], 2, s203.1, [.tmp 4], 2⟩
theorem ok203 : FnM Tryz.prog 203 fun203 := SC.okM s203 rfl (fn := Tryz.f203) (by kernel_rfl) (by kernel_rfl)
noncomputable def s209 : SC (Tryz.f209.body.getD .skip) := SC.mk' (by simp only [Tryz.f209, go_sem]; rfl)
noncomputable def fun209 : Fun := ⟨[0, 1, 2, 4], [2], [], 2, s209.1, [.tmp 4], 0⟩
theorem ok209 : FnM Tryz.prog 209 fun209 := SC.okM s209 rfl (fn := Tryz.f209) (by kernel_rfl) (by kernel_rfl)
noncomputable def s236 : SC (Tryz.f236.body.getD .skip) := SC.mk' (by simp only [Tryz.f236, go_sem]; rfl)
noncomputable def fun236 : Fun := ⟨[0, 1, 9, 7, 8, 10, 6, 4], [], [], 2, s236.1, [.tmp 4], 0⟩
theorem ok236 : FnM Tryz.prog 236 fun236 := SC.okM s236 rfl (fn := Tryz.f236) (by kernel_rfl) (by kernel_rfl)
noncomputable def s242 : SC (Tryz.f242.body.getD .skip) := SC.mk' (by simp only [Tryz.f242, go_sem]; rfl)
noncomputable def fun242 : Fun := ⟨[0, 1, 2, 4, 10, 16, 3], [1, 2], [], 1, s242.1, [.cell 2 true 4, .tmp 3], 1⟩
theorem ok242 : FnM Tryz.prog 242 fun242 := SC.okM s242 rfl (fn := Tryz.f242) (by kernel_rfl) (by kernel_rfl)
noncomputable def s243 : SC (Tryz.f243.body.getD .skip) := SC.mk' (by simp only [Tryz.f243, go_sem]; rfl)
noncomputable def fun243 : Fun := ⟨[0, 1, 2, 3, 4, 7, 8, 30, 10, 18, 29, 31, 12, 35, 42, 9], [4, 7, 8], [], 4, s243.1, [.cell 8 true 11, .tmp 9], 3⟩
theorem ok243 : FnM Tryz.prog 243 fun243 := SC.okM s243 rfl (fn := Tryz.f243) (by kernel_rfl) (by kernel_rfl)
noncomputable def s248 : SC (Tryz.f248.body.getD .skip) := SC.mk' (by simp only [Tryz.f248, go_sem]; rfl)
noncomputable def fun248 : Fun := ⟨[0, 1, 2, 4, 6, 11, 3, 8, 9, 13, 22, 33, 44, 48, 52, 7], [3, 4, 6], [], 3, s248.1, [.cell 6 true 4, .tmp 7], 1⟩
theorem ok248 : FnM Tryz.prog 248 fun248 := SC.okM s248 rfl (fn := Tryz.f248) (by kernel_rfl) (by kernel_rfl)
noncomputable def s258 : SC (Tryz.f258.body.getD .skip) := SC.mk' (by simp only [Tryz.f258, go_sem]; rfl)
noncomputable def fun258 : Fun := ⟨[0, 13, 1, 3, 11, 5, 12, 14, 2], [1, 5], [], 1, s258.1, [.tmp 2], 4⟩
theorem ok258 : FnM Tryz.prog 258 fun258 := SC.okM s258 rfl (fn := Tryz.f258) (by kernel_rfl) (by kernel_rfl)
noncomputable def s260 : SC (Tryz.f260.body.getD .skip) := SC.mk' (by simp only [Tryz.f260, go_sem]; rfl)
noncomputable def fun260 : Fun := ⟨[0, 1, 2, 4, 10, 6, 7, 19, 5], [2, 4], [], 2, s260.1, [.cell 4 true 8, .tmp 5], 6⟩
theorem ok260 : FnM Tryz.prog 260 fun260 := SC.okM s260 rfl (fn := Tryz.f260) (by kernel_rfl) (by kernel_rfl)
noncomputable def s265 : SC (Tryz.f265.body.getD .skip) := SC.mk' (by simp only [Tryz.f265, go_sem]; rfl)
noncomputable def fun265 : Fun := ⟨[0, 1, 2, 4], [2], [], 2, s265.1, [.tmp 4], 0⟩
theorem ok265 : FnM Tryz.prog 265 fun265 := SC.okM s265 rfl (fn := Tryz.f265) (by kernel_rfl) (by kernel_rfl)
noncomputable def s267 : SC (Tryz.f267.body.getD .skip) := SC.mk' (by simp only [Tryz.f267, go_sem]; rfl)
noncomputable def fun267 : Fun := ⟨[0, 4, 2], [], [], 1, s267.1, [.tmp 2], 0⟩
theorem ok267 : FnM Tryz.prog 267 fun267 := SC.okM s267 rfl (fn := Tryz.f267) (by kernel_rfl) (by kernel_rfl)
noncomputable def s270 : SC (Tryz.f270.body.getD .skip) := SC.mk' (by simp only [Tryz.f270, go_sem]; rfl)
noncomputable def fun270 : Fun := ⟨[0, 2], [], [], 1, s270.1, [.tmp 2], 0⟩
theorem ok270 : FnM Tryz.prog 270 fun270 := SC.okM s270 rfl (fn := Tryz.f270) (by kernel_rfl) (by kernel_rfl)
noncomputable def s277 : SC (Tryz.f277.body.getD .skip) := SC.mk' (by simp only [Tryz.f277, go_sem]; rfl)
noncomputable def fun277 : Fun := ⟨[0, 1, 2, 3, 4, 5, 6, 12, 18, 19, 16, 17, 15, 24, 52, 57, 70, 80, 13, 14], [6, 12, 19], [], 6, s277.1, [.cell 12 true 8, .tmp 13, .tmp 14], 8⟩
theorem ok277 : FnM Tryz.prog 277 fun277 := SC.okM s277 rfl (fn := Tryz.f277) (by kernel_rfl) (by kernel_rfl)
noncomputable def s279 : SC (Tryz.f279.body.getD .skip) := SC.mk' (by simp only [Tryz.f279, go_sem]; rfl)
noncomputable def fun279 : Fun := ⟨[0, 1, 2, 8, 4, 5, 7, 15, 23, 9, 11, 6], [2, 4, 5], [37], 2, s279.1, [.cell 4 true 2, .cell 5 true 7, .tmp 6], 4⟩
theorem ok279 : FnM Tryz.prog 279 fun279 := SC.okM s279 rfl (fn := Tryz.f279) (by kernel_rfl) (by kernel_rfl)
noncomputable def s281 : SC (Tryz.f281.body.getD .skip) := SC.mk' (by simp only [Tryz.f281, go_sem]; rfl)
noncomputable def fun281 : Fun := ⟨[0, 1, 2, 4], [2], [], 2, s281.1, [.tmp 4], 0⟩
theorem ok281 : FnM Tryz.prog 281 fun281 := SC.okM s281 rfl (fn := Tryz.f281) (by kernel_rfl) (by kernel_rfl)
noncomputable def s282 : SC (Tryz.f282.body.getD .skip) := SC.mk' (by simp only [Tryz.f282, go_sem]; rfl)
noncomputable def fun282 : Fun := ⟨[0, 1, 2, 3, 4, 6, 7, 12, 5], [2, 3, 4], [29], 2, s282.1, [.cell 4 true 3, .tmp 5], 4⟩
theorem ok282 : FnM Tryz.prog 282 fun282 := SC.okM s282 rfl (fn := Tryz.f282) (by kernel_rfl) (by kernel_rfl)
noncomputable def s283 : SC (Tryz.f283.body.getD .skip) := SC.mk' (by simp only [Tryz.f283, go_sem]; rfl)
noncomputable def fun283 : Fun := ⟨[0, 2], [], [], 1, s283.1, [.tmp 2], 0⟩
theorem ok283 : FnM Tryz.prog 283 fun283 := SC.okM s283 rfl (fn := Tryz.f283) (by kernel_rfl) (by kernel_rfl)
noncomputable def s289 : SC (Tryz.f289.body.getD .skip) := SC.mk' (by simp only [Tryz.f289, go_sem]; rfl)
noncomputable def fun289 : Fun := ⟨[0, 1, 3, 2, 4, 5, 11, 7, 6], [2, 3, 4, 5], [], 2, s289.1, [.cell 4 true 11, .cell 5 true 26, .tmp 6], 2⟩
theorem ok289 : FnM Tryz.prog 289 fun289 := SC.okM s289 rfl (fn := Tryz.f289) (by kernel_rfl) (by kernel_rfl)
noncomputable def s297 : SC (Tryz.f297.body.getD .skip) := SC.mk' (by simp only [Tryz.f297, go_sem]; rfl)
noncomputable def fun297 : Fun := ⟨[0, 1, 5, 2], [1], [], 1, s297.1, [.tmp 2], 3⟩
theorem ok297 : FnM Tryz.prog 297 fun297 := SC.okM s297 rfl (fn := Tryz.f297) (by kernel_rfl) (by kernel_rfl)
noncomputable def s301 : SC (Tryz.f301.body.getD .skip) := SC.mk' (by simp only [Tryz.f301, go_sem]; rfl)
noncomputable def fun301 : Fun := ⟨[0, 1, 2, 4, 3, 6, 7, 9, 20, 37, 54, 58, 8], [3, 4, 6, 7], [], 3, s301.1, [.cell 6 true 11, .cell 7 true 5, .tmp 8], 3⟩
theorem ok301 : FnM Tryz.prog 301 fun301 := SC.okM s301 rfl (fn := Tryz.f301) (by kernel_rfl) (by kernel_rfl)
noncomputable def s302 : SC (Tryz.f302.body.getD .skip) := SC.mk' (by simp only [Tryz.f302, go_sem]; rfl)
noncomputable def fun302 : Fun := ⟨[0, 1, 5, 6, 7, 12, 19, 29, 4], [], [], 2, s302.1, [.tmp 4], 7⟩
theorem ok302 : FnM Tryz.prog 302 fun302 := SC.okM s302 rfl (fn := Tryz.f302) (by kernel_rfl) (by kernel_rfl)
noncomputable def s307 : SC (Tryz.f307.body.getD .skip) := SC.mk' (by simp only [Tryz.f307, go_sem]; rfl)
noncomputable def fun307 : Fun := ⟨[0, 1, 2, 4], [2], [], 2, s307.1, [.tmp 4], 0⟩
theorem ok307 : FnM Tryz.prog 307 fun307 := SC.okM s307 rfl (fn := Tryz.f307) (by kernel_rfl) (by kernel_rfl)
noncomputable def s309 : SC (Tryz.f309.body.getD .skip) := SC.mk' (by simp only [Tryz.f309, go_sem]; rfl)
noncomputable def fun309 : Fun := ⟨[0, 2], [], [], 1, s309.1, [.tmp 2], 1⟩
theorem ok309 : FnM Tryz.prog 309 fun309 := SC.okM s309 rfl (fn := Tryz.f309) (by kernel_rfl) (by kernel_rfl)
noncomputable def s316 : SC (Tryz.f316.body.getD .skip) := SC.mk' (by simp only [Tryz.f316, go_sem]; rfl)
noncomputable def fun316 : Fun := ⟨[0, 1, 2, 3, 24, 9, 45, 6, 7, 22, 43, 11, 19, 23, 25, 37, 44, 46, 53], [3, 9, 11], [], 3, s316.1, [.tmp 6, .tmp 7], 9⟩
theorem ok316 : FnM Tryz.prog 316 fun316 := SC.okM s316 rfl (fn := Tryz.f316) (by kernel_rfl) (by kernel_rfl)
noncomputable def s317 : SC (Tryz.f317.body.getD .skip) := SC.mk' (by simp only [Tryz.f317, go_sem]; rfl)
noncomputable def fun317 : Fun := ⟨[0, 1, 7, 3, 6, 8, 4, 2], [1], [], 1, s317.1, [.tmp 2], 1⟩
theorem ok317 : FnM Tryz.prog 317 fun317 := SC.okM s317 rfl (fn := Tryz.f317) (by kernel_rfl) (by kernel_rfl)
noncomputable def s320 : SC (Tryz.f320.body.getD .skip) := SC.mk' (by simp only [Tryz.f320, go_sem]; rfl)
noncomputable def fun320 : Fun := ⟨[0, 1, 15, 4, 13, 11, 14, 16, 28, 2], [1, 4], [], 1, s320.1, [.tmp 2], 2⟩
theorem ok320 : FnM Tryz.prog 320 fun320 := SC.okM s320 rfl (fn := Tryz.f320) (by kernel_rfl) (by kernel_rfl)
noncomputable def s321 : SC (Tryz.f321.body.getD .skip) := SC.mk' (by simp only [Tryz.f321, go_sem]; rfl)
noncomputable def fun321 : Fun := ⟨[0, 1, 8, 5, 7, 9, 16, 4], [], [], 2, s321.1, [.tmp 4], 0⟩
theorem ok321 : FnM Tryz.prog 321 fun321 := SC.okM s321 rfl (fn := Tryz.f321) (by kernel_rfl) (by kernel_rfl)
noncomputable def s322 : SC (Tryz.f322.body.getD .skip) := SC.mk' (by simp only [Tryz.f322, go_sem]; rfl)
noncomputable def fun322 : Fun := ⟨[0, 1, 4], [], [], 2, s322.1, [.tmp 4], 1⟩
theorem ok322 : FnM Tryz.prog 322 fun322 := SC.okM s322 rfl (fn := Tryz.f322) (by kernel_rfl) (by kernel_rfl)
noncomputable def s327 : SC (Tryz.f327.body.getD .skip) := SC.mk' (by simp only [Tryz.f327, go_sem]; rfl)
noncomputable def fun327 : Fun := ⟨[0, 1, 3, 4], [], [], 2, s327.1, [.tmp 4], 3⟩
theorem ok327 : FnM Tryz.prog 327 fun327 := SC.okM s327 rfl (fn := Tryz.f327) (by kernel_rfl) (by kernel_rfl)
noncomputable def s336 : SC (Tryz.f336.body.getD .skip) := SC.mk' (by simp only [Tryz.f336, go_sem]; rfl)
noncomputable def fun336 : Fun := ⟨[0, 1, 2, 4, 3, 6, 7, 9, 10, 11, 29, 53, 67, 79, 8], [3, 4, 6, 7], [], 3, s336.1, [.cell 6 true 11, .cell 7 true 26, .tmp 8], 8⟩
theorem ok336 : FnM Tryz.prog 336 fun336 := SC.okM s336 rfl (fn := Tryz.f336) (by kernel_rfl) (by kernel_rfl)
noncomputable def s341 : SC (Tryz.f341.body.getD .skip) := SC.mk' (by simp only [Tryz.f341, go_sem]; rfl)
noncomputable def fun341 : Fun := ⟨[0, 1, 2, 3, 6], [3], [], 3, s341.1, [.tmp 6], 1⟩
theorem ok341 : FnM Tryz.prog 341 fun341 := SC.okM s341 rfl (fn := Tryz.f341) (by kernel_rfl) (by kernel_rfl)
noncomputable def s342 : SC (Tryz.f342.body.getD .skip) := SC.mk' (by simp only [Tryz.f342, go_sem]; rfl)
noncomputable def fun342 : Fun := ⟨[0, 1, 2, 4, 7, 12, 17, 3], [1, 2], [], 1, s342.1, [.cell 2 true 7, .tmp 3], 2⟩
theorem ok342 : FnM Tryz.prog 342 fun342 := SC.okM s342 rfl (fn := Tryz.f342) (by kernel_rfl) (by kernel_rfl)
noncomputable def s345 : SC (Tryz.f345.body.getD .skip) := SC.mk' (by simp only [Tryz.f345, go_sem]; rfl)
noncomputable def fun345 : Fun := ⟨[0, 1, 6, 7, 11, 17, 4, 5], [], [], 2, s345.1, [.tmp 4, .tmp 5], 3⟩
theorem ok345 : FnM Tryz.prog 345 fun345 := SC.okM s345 rfl (fn := Tryz.f345) (by kernel_rfl) (by kernel_rfl)
noncomputable def s348 : SC (Tryz.f348.body.getD .skip) := SC.mk' (by simp only [Tryz.f348, go_sem]; rfl)
noncomputable def fun348 : Fun := ⟨[0, 1, 4], [], [8], 2, s348.1, [.tmp 4], 0⟩
theorem ok348 : FnM Tryz.prog 348 fun348 := SC.okM s348 rfl (fn := Tryz.f348) (by kernel_rfl) (by kernel_rfl)
noncomputable def s350 : SC (Tryz.f350.body.getD .skip) := SC.mk' (by simp only [Tryz.f350, go_sem]; rfl)
noncomputable def fun350 : Fun := ⟨[0, 1, 2, 4, 6, 16, 5], [2, 4], [], 2, s350.1, [.cell 4 true 8, .tmp 5], 3⟩
theorem ok350 : FnM Tryz.prog 350 fun350 := SC.okM s350 rfl (fn := Tryz.f350) (by kernel_rfl) (by kernel_rfl)
noncomputable def s364 : SC (Tryz.f364.body.getD .skip) := SC.mk' (by simp only [Tryz.f364, go_sem]; rfl)
noncomputable def fun364 : Fun := ⟨[0, 1, 4], [], [], 2, s364.1, [.tmp 4], 3⟩
theorem ok364 : FnM Tryz.prog 364 fun364 := SC.okM s364 rfl (fn := Tryz.f364) (by kernel_rfl) (by kernel_rfl)
noncomputable def s367 : SC (Tryz.f367.body.getD .skip) := SC.mk' (by simp only [Tryz.f367, go_sem]; rfl)
noncomputable def fun367 : Fun := ⟨[0, 1, 3, 4], [3], [], 2, s367.1, [.tmp 4], 1⟩
theorem ok367 : FnM Tryz.prog 367 fun367 := SC.okM s367 rfl (fn := Tryz.f367) (by kernel_rfl) (by kernel_rfl)
noncomputable def s375 : SC (Tryz.f375.body.getD .skip) := SC.mk' (by simp only [Tryz.f375, go_sem]; rfl)
noncomputable def fun375 : Fun := ⟨[0, 1, 2, 3, 6, 22, 27, 7, 8], [3, 6], [], 3, s375.1, [.cell 6 true 11, .tmp 7, .tmp 8], 1⟩
theorem ok375 : FnM Tryz.prog 375 fun375 := SC.okM s375 rfl (fn := Tryz.f375) (by kernel_rfl) (by kernel_rfl)
noncomputable def s376 : SC (Tryz.f376.body.getD .skip) := SC.mk' (by simp only [Tryz.f376, go_sem]; rfl)
noncomputable def fun376 : Fun := ⟨[0, 1, 2, 3, 6, 21, 27, 7], [3, 6], [], 3, s376.1, [.cell 6 true 11, .tmp 7], 1⟩
theorem ok376 : FnM Tryz.prog 376 fun376 := SC.okM s376 rfl (fn := Tryz.f376) (by kernel_rfl) (by kernel_rfl)
noncomputable def s378 : SC (Tryz.f378.body.getD .skip) := SC.mk' (by simp only [Tryz.f378, go_sem]; rfl)
noncomputable def fun378 : Fun := ⟨[0, 1, 2, 3, 4, 7, 8, 10, 16, 40, 9], [4, 7, 8], [], 4, s378.1, [.cell 8 true 11, .tmp 9], 2⟩
theorem ok378 : FnM Tryz.prog 378 fun378 := SC.okM s378 rfl (fn := Tryz.f378) (by kernel_rfl) (by kernel_rfl)
noncomputable def s380 : SC (Tryz.f380.body.getD .skip) := SC.mk' (by simp only [Tryz.f380, go_sem]; rfl)
noncomputable def fun380 : Fun := ⟨[0, 1, 2, 4, 9, 5], [2, 4], [], 2, s380.1, [.cell 4 true 8, .tmp 5], 1⟩
theorem ok380 : FnM Tryz.prog 380 fun380 := SC.okM s380 rfl (fn := Tryz.f380) (by kernel_rfl) (by kernel_rfl)
noncomputable def s388 : SC (Tryz.f388.body.getD .skip) := SC.mk' (by simp only [Tryz.f388, go_sem]; rfl)
noncomputable def fun388 : Fun := ⟨[0, 1, 19, 4], [], [], 2, s388.1, [.tmp 4], 1⟩
theorem ok388 : FnM Tryz.prog 388 fun388 := SC.okM s388 rfl (fn := Tryz.f388) (by kernel_rfl) (by kernel_rfl)
noncomputable def s391 : SC (Tryz.f391.body.getD .skip) := SC.mk' (by simp only [Tryz.f391, go_sem]; rfl)
noncomputable def fun391 : Fun := ⟨[0, 1, 2, 3, 4], [2, 3], [], 2, s391.1, [.tmp 4], 2⟩
theorem ok391 : FnM Tryz.prog 391 fun391 := SC.okM s391 rfl (fn := Tryz.f391) (by kernel_rfl) (by kernel_rfl)
noncomputable def s404 : SC (Tryz.f404.body.getD .skip) := SC.mk' (by simp only [Tryz.f404, go_sem]; rfl)
noncomputable def fun404 : Fun := ⟨[0, 1, 5, 11, 31, 43, 4], [], [], 2, s404.1, [.tmp 4], 1⟩
theorem ok404 : FnM Tryz.prog 404 fun404 := SC.okM s404 rfl (fn := Tryz.f404) (by kernel_rfl) (by kernel_rfl)
noncomputable def s408 : SC (Tryz.f408.body.getD .skip) := SC.mk' (by simp only [Tryz.f408, go_sem]; rfl)
noncomputable def fun408 : Fun := ⟨[0, 8, 3, 6, 5, 7, 9, 14, 2], [], [], 1, s408.1, [.tmp 2], 0⟩
theorem ok408 : FnM Tryz.prog 408 fun408 := SC.okM s408 rfl (fn := Tryz.f408) (by kernel_rfl) (by kernel_rfl)
end Go.M
