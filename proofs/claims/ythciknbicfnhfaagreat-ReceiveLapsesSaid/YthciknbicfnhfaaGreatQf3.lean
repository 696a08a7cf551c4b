/-
  The codes of functions, as the machine takes them.
  No condition: definitions and lemmas.
-/
import Derived.Test.YthciknbicfnhfaaGreatQty
set_option linter.all false
set_option maxRecDepth 100000
set_option maxHeartbeats 4000000
namespace Go.M
open Go Go.Proofs
open Go.Eng (SOp SOper SCode sizeP aggP zerosOf bytesP zeroVal stripCode stripOps stripOper strip stripParts kindsOf)

noncomputable def s5 : SC (Tryz.f5.body.getD .skip) := SC.mk' (by simp only [Tryz.f5, go_sem]; rfl)
noncomputable def fun5 : Fun := ⟨[0, 1, 2, 8, 15, 7, 14, 9, 16, 10, 12, 24, 49, 71, 74, 124, 17, 6], [7, 8, 9, 13, 16], [], 3, s5.1, [.tmp 6], 20⟩
theorem ok5 : FnM Tryz.prog 5 fun5 := SC.okM s5 rfl (fn := Tryz.f5) (by kernel_rfl) (by kernel_rfl)
noncomputable def s10 : SC (Tryz.f10.body.getD .skip) := SC.mk' (by simp only [Tryz.f10, go_sem]; rfl)
noncomputable def fun10 : Fun := ⟨[0, 4, 2, 9, 5, 6, 47, 3], [2, 4], [], 1, s10.1, [.cell 2 true 4, .tmp 3], 3⟩
theorem ok10 : FnM Tryz.prog 10 fun10 := SC.okM s10 rfl (fn := Tryz.f10) (by kernel_rfl) (by kernel_rfl)
noncomputable def s14 : SC (Tryz.f14.body.getD .skip) := SC.mk' (by simp only [Tryz.f14, go_sem]; rfl)
noncomputable def fun14 : Fun := ⟨[0, 1, 2, 4, 7, 8, 9, 3, 19, 36, 5, 6], [2, 3, 4, 8], [41], 2, s14.1, [.cell 4 true 23, .tmp 5, .tmp 6], 4⟩
theorem ok14 : FnM Tryz.prog 14 fun14 := SC.okM s14 rfl (fn := Tryz.f14) (by kernel_rfl) (by kernel_rfl)
noncomputable def s26 : SC (Tryz.f26.body.getD .skip) := SC.mk' (by simp only [Tryz.f26, go_sem]; rfl)
noncomputable def fun26 : Fun := ⟨[0, 1, 4], [], [], 2, s26.1, [.tmp 4], 0⟩
theorem ok26 : FnM Tryz.prog 26 fun26 := SC.okM s26 rfl (fn := Tryz.f26) (by kernel_rfl) (by kernel_rfl)
noncomputable def s28 : SC (Tryz.f28.body.getD .skip) := SC.mk' (by simp only [Tryz.f28, go_sem]; rfl)
noncomputable def fun28 : Fun := ⟨[0, 1, 3, 7, 11, 2], [1], [], 1, s28.1, [.tmp 2], 7⟩
theorem ok28 : FnM Tryz.prog 28 fun28 := SC.okM s28 rfl (fn := Tryz.f28) (by kernel_rfl) (by kernel_rfl)
noncomputable def s29 : SC (Tryz.f29.body.getD .skip) := SC.mk' (by simp only [Tryz.f29, go_sem]; rfl)
noncomputable def fun29 : Fun := ⟨[0, 4, 1, 3, 9, 18, 2], [1], [], 1, s29.1, [.tmp 2], 0⟩
theorem ok29 : FnM Tryz.prog 29 fun29 := SC.okM s29 rfl (fn := Tryz.f29) (by kernel_rfl) (by kernel_rfl)
noncomputable def s31 : SC (Tryz.f31.body.getD .skip) := SC.mk' (by simp only [Tryz.f31, go_sem]; rfl)
noncomputable def fun31 : Fun := ⟨[0, 1, 2, 8, 6, 11, 4, 7, 10, 9, 30, 61, 5], [2, 4, 6, 7, 8], [66], 2, s31.1, [.cell 4 true 23, .tmp 5], 16⟩
theorem ok31 : FnM Tryz.prog 31 fun31 := SC.okM s31 rfl (fn := Tryz.f31) (by kernel_rfl) (by kernel_rfl)
noncomputable def s32 : SC (Tryz.f32.body.getD .skip) := SC.mk' (by simp only [Tryz.f32, go_sem]; rfl)
noncomputable def fun32 : Fun := ⟨[0, 1, 5, 2], [1], [], 1, s32.1, [.tmp 2], 3⟩
theorem ok32 : FnM Tryz.prog 32 fun32 := SC.okM s32 rfl (fn := Tryz.f32) (by kernel_rfl) (by kernel_rfl)
noncomputable def s36 : SC (Tryz.f36.body.getD .skip) := SC.mk' (by simp only [Tryz.f36, go_sem]; rfl)
noncomputable def fun36 : Fun := ⟨[0, 1, 6, 7, 4, 8, 2, 57, 78, 90, 3], [1, 2, 4, 6, 8], [], 1, s36.1, [.cell 2 true 11, .tmp 3], 2⟩
theorem ok36 : FnM Tryz.prog 36 fun36 := SC.okM s36 rfl (fn := Tryz.f36) (by kernel_rfl) (by kernel_rfl)
noncomputable def s45 : SC (Tryz.f45.body.getD .skip) := SC.mk' (by simp only [Tryz.f45, go_sem]; rfl)
noncomputable def fun45 : Fun := ⟨[0, 1, 2, 9, 8, 27, 33, 6, 7], [], [], 3, s45.1, [.tmp 6, .tmp 7], 0⟩
theorem ok45 : FnM Tryz.prog 45 fun45 := SC.okM s45 rfl (fn := Tryz.f45) (by kernel_rfl) (by kernel_rfl)
noncomputable def s46 : SC (Tryz.f46.body.getD .skip) := SC.mk' (by simp only [Tryz.f46, go_sem]; rfl)
noncomputable def fun46 : Fun := ⟨[0, 2], [], [], 1, s46.1, [.tmp 2], 1⟩
theorem ok46 : FnM Tryz.prog 46 fun46 := SC.okM s46 rfl (fn := Tryz.f46) (by kernel_rfl) (by kernel_rfl)
noncomputable def s56 : SC (Tryz.f56.body.getD .skip) := SC.mk' (by simp only [Tryz.f56, go_sem]; rfl)
noncomputable def fun56 : Fun := ⟨[0, 1, 2, 4, 3, 11, 6, 7, 32, 33, 45, 12, 10, 26, 40, 46, 56, 68, 8, 9], [3, 4, 6, 7, 12], [], 3, s56.1, [.cell 6 true 11, .cell 7 true 63, .tmp 8, .tmp 9], 14⟩
theorem ok56 : FnM Tryz.prog 56 fun56 := SC.okM s56 rfl (fn := Tryz.f56) (by kernel_rfl) (by kernel_rfl)
noncomputable def s63 : SC (Tryz.f63.body.getD .skip) := SC.mk' (by simp only [Tryz.f63, go_sem]; rfl)
noncomputable def fun63 : Fun := ⟨[0, 2, 4, 5, 12, 3], [2, 4], [], 1, s63.1, [.cell 2 true 8, .tmp 3], 1⟩
theorem ok63 : FnM Tryz.prog 63 fun63 := SC.okM s63 rfl (fn := Tryz.f63) (by kernel_rfl) (by kernel_rfl)
noncomputable def s64 : SC (Tryz.f64.body.getD .skip) := SC.mk' (by simp only [Tryz.f64, go_sem]; rfl)
noncomputable def fun64 : Fun := ⟨[0, 1, 2, 6, 8, 9, 16, 22, 7], [6, 8], [], 3, s64.1, [.cell 6 true 8, .tmp 7], 1⟩
theorem ok64 : FnM Tryz.prog 64 fun64 := SC.okM s64 rfl (fn := Tryz.f64) (by kernel_rfl) (by kernel_rfl)
noncomputable def s65 : SC (Tryz.f65.body.getD .skip) := SC.mk' (by simp only [Tryz.f65, go_sem]; rfl)
noncomputable def fun65 : Fun := ⟨[0, 2, 9, 3], [2], [], 1, s65.1, [.cell 2 true 2, .tmp 3], 0⟩
theorem ok65 : FnM Tryz.prog 65 fun65 := SC.okM s65 rfl (fn := Tryz.f65) (by kernel_rfl) (by kernel_rfl)
noncomputable def s66 : SC (Tryz.f66.body.getD .skip) := SC.mk' (by simp only [Tryz.f66, go_sem]; rfl)
noncomputable def fun66 : Fun := ⟨[0, 1, 2, 6], [], [], 3, s66.1, [.tmp 6], 0⟩
theorem ok66 : FnM Tryz.prog 66 fun66 := SC.okM s66 rfl (fn := Tryz.f66) (by kernel_rfl) (by kernel_rfl)
noncomputable def s71 : SC (Tryz.f71.body.getD .skip) := SC.mk' (by simp only [Tryz.f71, go_sem]; rfl)
noncomputable def fun71 : Fun := ⟨[0, 1, 4, 6, 7, 14, 22, 5], [4, 6], [], 2, s71.1, [.cell 4 true 26, .tmp 5], 2⟩
theorem ok71 : FnM Tryz.prog 71 fun71 := SC.okM s71 rfl (fn := Tryz.f71) (by kernel_rfl) (by kernel_rfl)
noncomputable def s74 : SC (Tryz.f74.body.getD .skip) := SC.mk' (by simp only [Tryz.f74, go_sem]; rfl)
noncomputable def fun74 : Fun := ⟨[0, 1, 2, 4], [2], [], 2, s74.1, [.tmp 4], 8⟩
theorem ok74 : FnM Tryz.prog 74 fun74 := SC.okM s74 rfl (fn := Tryz.f74) (by kernel_rfl) (by kernel_rfl)
noncomputable def s79 : SC (Tryz.f79.body.getD .skip) := SC.mk' (by simp only [Tryz.f79, go_sem]; rfl)
noncomputable def fun79 : Fun := ⟨[0, 4, 3, 8, 2], [], [], 1, s79.1, [.tmp 2], 0⟩
theorem ok79 : FnM Tryz.prog 79 fun79 := SC.okM s79 rfl (fn := Tryz.f79) (by kernel_rfl) (by kernel_rfl)
noncomputable def s81 : SC (Tryz.f81.body.getD .skip) := SC.mk' (by simp only [Tryz.f81, go_sem]; rfl)
noncomputable def fun81 : Fun := ⟨[0, 1, 4], [], [], 2, s81.1, [.tmp 4], 0⟩
theorem ok81 : FnM Tryz.prog 81 fun81 := SC.okM s81 rfl (fn := Tryz.f81) (by kernel_rfl) (by kernel_rfl)
noncomputable def s82 : SC (Tryz.f82.body.getD .skip) := SC.mk' (by simp only [Tryz.f82, go_sem]; rfl)
noncomputable def fun82 : Fun := ⟨[0, 1, 2], [1], [], 1, s82.1, [.tmp 2], 5⟩
theorem ok82 : FnM Tryz.prog 82 fun82 := SC.okM s82 rfl (fn := Tryz.f82) (by kernel_rfl) (by kernel_rfl)
noncomputable def s96 : SC (Tryz.f96.body.getD .skip) := SC.mk' (by simp only [Tryz.f96, go_sem]; rfl)
noncomputable def fun96 : Fun := ⟨[0, 1, 38, 42, 2], [1], [], 1, s96.1, [.tmp 2], 1⟩
theorem ok96 : FnM Tryz.prog 96 fun96 := SC.okM s96 rfl (fn := Tryz.f96) (by kernel_rfl) (by kernel_rfl)
noncomputable def s97 : SC (Tryz.f97.body.getD .skip) := SC.mk' (by simp only [Tryz.f97, go_sem]; rfl)
noncomputable def fun97 : Fun := ⟨[0, 1, 2, 18, 27, 4], [2], [], 2, s97.1, [.tmp 4], 5⟩
theorem ok97 : FnM Tryz.prog 97 fun97 := SC.okM s97 rfl (fn := Tryz.f97) (by kernel_rfl) (by kernel_rfl)
noncomputable def s98 : SC (Tryz.f98.body.getD .skip) := SC.mk' (by simp only [Tryz.f98, go_sem]; rfl)
noncomputable def fun98 : Fun := ⟨[0, 1, 2, 4, 6, 9, 16, 5], [2, 4], [], 2, s98.1, [.cell 4 true 3, .tmp 5], 5⟩
theorem ok98 : FnM Tryz.prog 98 fun98 := SC.okM s98 rfl (fn := Tryz.f98) (by kernel_rfl) (by kernel_rfl)
noncomputable def s100 : SC (Tryz.f100.body.getD .skip) := SC.mk' (by simp only [Tryz.f100, go_sem]; rfl)
noncomputable def fun100 : Fun := ⟨[0, 1, 10, 8, 9, 2, 3, 13, 17, 6, 7, 11, 12, 90, 109, 88, 107, 34, 49, 61, 77, 84, 89, 91, 15, 108, 110, 139, 153, 4, 5], [1, 2, 3, 6, 7, 8, 9, 10, 13, 17], [], 1, s100.1, [.cell 2 true 63, .cell 3 true 6, .tmp 4, .tmp 5], 13⟩
theorem ok100 : FnM Tryz.prog 100 fun100 := SC.okM s100 rfl (fn := Tryz.f100) (by kernel_rfl) (by kernel_rfl)
noncomputable def s102 : SC (Tryz.f102.body.getD .skip) := SC.mk' (by simp only [Tryz.f102, go_sem]; rfl)
noncomputable def fun102 : Fun := ⟨[0, 2, 9, 3], [2], [], 1, s102.1, [.cell 2 true 3, .tmp 3], 0⟩
theorem ok102 : FnM Tryz.prog 102 fun102 := SC.okM s102 rfl (fn := Tryz.f102) (by kernel_rfl) (by kernel_rfl)
noncomputable def s104 : SC (Tryz.f104.body.getD .skip) := SC.mk' (by simp only [Tryz.f104, go_sem]; rfl)
noncomputable def fun104 : Fun := ⟨[0, 1, 4, 44, 6, 28, 43, 45, 2, 3], [1, 6], [], 1, s104.1, [.tmp 2, .tmp 3], 2⟩
theorem ok104 : FnM Tryz.prog 104 fun104 := SC.okM s104 rfl (fn := Tryz.f104) (by kernel_rfl) (by kernel_rfl)
noncomputable def s106 : SC (Tryz.f106.body.getD .skip) := SC.mk' (by simp only [Tryz.f106, go_sem]; rfl)
noncomputable def fun106 : Fun := ⟨[0, 2], [], [], 1, s106.1, [.tmp 2], 0⟩
theorem ok106 : FnM Tryz.prog 106 fun106 := SC.okM s106 rfl (fn := Tryz.f106) (by kernel_rfl) (by kernel_rfl)
noncomputable def s111 : SC (Tryz.f111.body.getD .skip) := SC.mk' (by simp only [Tryz.f111, go_sem]; rfl)
noncomputable def fun111 : Fun := ⟨[0, 1, 3, 4], [], [], 2, s111.1, [.tmp 4], 2⟩
theorem ok111 : FnM Tryz.prog 111 fun111 := SC.okM s111 rfl (fn := Tryz.f111) (by kernel_rfl) (by kernel_rfl)
noncomputable def s115 : SC (Tryz.f115.body.getD .skip) := SC.mk' (by simp only [Tryz.f115, go_sem]; rfl)
noncomputable def fun115 : Fun := ⟨[0, 3, 4, 5, 35, 2], [], [], 1, s115.1, [.tmp 2], 12⟩
theorem ok115 : FnM Tryz.prog 115 fun115 := SC.okM s115 rfl (fn := Tryz.f115) (by kernel_rfl) (by kernel_rfl)
noncomputable def s116 : SC (Tryz.f116.body.getD .skip) := SC.mk' (by simp only [Tryz.f116, go_sem]; rfl)
noncomputable def fun116 : Fun := ⟨[0, 1, 3, 7, 11, 2], [1], [], 1, s116.1, [.tmp 2], 7⟩
theorem ok116 : FnM Tryz.prog 116 fun116 := SC.okM s116 rfl (fn := Tryz.f116) (by kernel_rfl) (by kernel_rfl)
noncomputable def s123 : SC (Tryz.f123.body.getD .skip) := SC.mk' (by simp only [Tryz.f123, go_sem]; rfl)
noncomputable def fun123 : Fun := ⟨[0, 4, 5, 3, 8, 12, 20, 24, 35, 39, 52, 2], [], [], 1, s123.1, [.tmp 2], 1⟩
theorem ok123 : FnM Tryz.prog 123 fun123 := SC.okM s123 rfl (fn := Tryz.f123) (by kernel_rfl) (by kernel_rfl)
noncomputable def s129 : SC (Tryz.f129.body.getD .skip) := SC.mk' (by simp only [Tryz.f129, go_sem]; rfl)
noncomputable def fun129 : Fun := ⟨[0, 1, 2, 3, 7, 4, 6, 36], [3, 4, 6, 7], [26], 3, s129.1, [.cell 6 true 63], 1⟩
theorem ok129 : FnM Tryz.prog 129 fun129 := SC.okM s129 rfl (fn := Tryz.f129) (by kernel_rfl) (by kernel_rfl)
noncomputable def s133 : SC (Tryz.f133.body.getD .skip) := SC.mk' (by simp only [Tryz.f133, go_sem]; rfl)
noncomputable def fun133 : Fun := ⟨[0, 1, 2, 3, 5, 4, 8], [4, 5, 8], [], 4, s133.1, [.cell 8 true 63], 3⟩
theorem ok133 : FnM Tryz.prog 133 fun133 := SC.okM s133 rfl (fn := Tryz.f133) (by kernel_rfl) (by kernel_rfl)
noncomputable def s136 : SC (Tryz.f136.body.getD .skip) := SC.mk' (by simp only [Tryz.f136, go_sem]; rfl)
noncomputable def fun136 : Fun := ⟨[0, 1, 2], [1, 2], [], 1, s136.1, [.cell 2 true 3], 0⟩
theorem ok136 : FnM Tryz.prog 136 fun136 := SC.okM s136 rfl (fn := Tryz.f136) (by kernel_rfl) (by kernel_rfl)
noncomputable def s144 : SC (Tryz.f144.body.getD .skip) := SC.mk' (by simp only [Tryz.f144, go_sem]; rfl)
noncomputable def fun144 : Fun := ⟨[0, 1, 2, 4], [2], [], 2, s144.1, [.tmp 4], 8⟩
theorem ok144 : FnM Tryz.prog 144 fun144 := SC.okM s144 rfl (fn := Tryz.f144) (by kernel_rfl) (by kernel_rfl)
noncomputable def s160 : SC (Tryz.f160.body.getD .skip) := SC.mk' (by simp only [Tryz.f160, go_sem]; rfl)
noncomputable def fun160 : Fun := ⟨[0, 1, 2], [1], [], 1, s160.1, [.tmp 2], 0⟩
theorem ok160 : FnM Tryz.prog 160 fun160 := SC.okM s160 rfl (fn := Tryz.f160) (by kernel_rfl) (by kernel_rfl)
noncomputable def s177 : SC (Tryz.f177.body.getD .skip) := SC.mk' (by simp only [Tryz.f177, go_sem]; rfl)
noncomputable def fun177 : Fun := ⟨[0, 1, 8, 56, 3, 4, 5, 6, 54, 13, 19, 23, 36, 37, 44, 55, 57, 67, 79, 2], [1, 8], [], 1, s177.1, [.tmp 2], 6⟩
theorem ok177 : FnM Tryz.prog 177 fun177 := SC.okM s177 rfl (fn := Tryz.f177) (by kernel_rfl) (by kernel_rfl)
noncomputable def s179 : SC (Tryz.f179.body.getD .skip) := SC.mk' (by simp only [Tryz.f179, go_sem]; rfl)
noncomputable def fun179 : Fun := ⟨[0, 2], [], [], 1, s179.1, [.tmp 2], 1⟩
theorem ok179 : FnM Tryz.prog 179 fun179 := SC.okM s179 rfl (fn := Tryz.f179) (by kernel_rfl) (by kernel_rfl)
noncomputable def s180 : SC (Tryz.f180.body.getD .skip) := SC.mk' (by simp only [Tryz.f180, go_sem]; rfl)
noncomputable def fun180 : Fun := ⟨[0, 2], [], [], 1, s180.1, [.tmp 2], 1⟩
theorem ok180 : FnM Tryz.prog 180 fun180 := SC.okM s180 rfl (fn := Tryz.f180) (by kernel_rfl) (by kernel_rfl)
noncomputable def s184 : SC (Tryz.f184.body.getD .skip) := SC.mk' (by simp only [Tryz.f184, go_sem]; rfl)
noncomputable def fun184 : Fun := ⟨[0, 1, 2, 4], [2], [], 2, s184.1, [.tmp 4], 0⟩
theorem ok184 : FnM Tryz.prog 184 fun184 := SC.okM s184 rfl (fn := Tryz.f184) (by kernel_rfl) (by kernel_rfl)
noncomputable def s185 : SC (Tryz.f185.body.getD .skip) := SC.mk' (by simp only [Tryz.f185, go_sem]; rfl)
noncomputable def fun185 : Fun := ⟨[0, 1, 2, 3, 4, 6, 11, 5], [2, 3, 4], [], 2, s185.1, [.cell 4 true 3, .tmp 5], 4⟩
theorem ok185 : FnM Tryz.prog 185 fun185 := SC.okM s185 rfl (fn := Tryz.f185) (by kernel_rfl) (by kernel_rfl)
noncomputable def s196 : SC (Tryz.f196.body.getD .skip) := SC.mk' (by simp only [Tryz.f196, go_sem]; rfl)
noncomputable def fun196 : Fun := ⟨[0, 1, 2], [1, 2], [], 1, s196.1, [.cell 2 true 6], 0⟩
theorem ok196 : FnM Tryz.prog 196 fun196 := SC.okM s196 rfl (fn := Tryz.f196) (by kernel_rfl) (by kernel_rfl)
noncomputable def s204 : SC (Tryz.f204.body.getD .skip) := SC.mk' (by simp only [Tryz.f204, go_sem]; rfl)
noncomputable def fun204 : Fun := ⟨[0, 1, 4, 6, 7, 14, 22, 5], [4, 6], [], 2, s204.1, [.cell 4 true 26, .tmp 5], 1⟩
theorem ok204 : FnM Tryz.prog 204 fun204 := SC.okM s204 rfl (fn := Tryz.f204) (by kernel_rfl) (by kernel_rfl)
noncomputable def s219 : SC (Tryz.f219.body.getD .skip) := SC.mk' (by simp only [Tryz.f219, go_sem]; rfl)
noncomputable def fun219 : Fun := ⟨[0, 1, 3, 2, 4, 6, 7, 12, 26, 32, 52, 56, 69, 73, 80, 9, 5], [2, 3, 4, 8], [], 2, s219.1, [.cell 4 true 26, .tmp 5], 3⟩
theorem ok219 : FnM Tryz.prog 219 fun219 := SC.okM s219 rfl (fn := Tryz.f219) (by kernel_rfl) (by kernel_rfl)
noncomputable def s234 : SC (Tryz.f234.body.getD .skip) := SC.mk' (by simp only [Tryz.f234, go_sem]; rfl)
noncomputable def fun234 : Fun := ⟨[0, 1, 2, 3, 4, 8, 16, 39, 11, 12, 37, 15, 27, 38, 40, 14, 51, 63, 9, 10], [4, 8, 15], [], 4, s234.1, [.cell 8 true 8, .tmp 9, .tmp 10], 11⟩
theorem ok234 : FnM Tryz.prog 234 fun234 := SC.okM s234 rfl (fn := Tryz.f234) (by kernel_rfl) (by kernel_rfl)
noncomputable def s236 : SC (Tryz.f236.body.getD .skip) := SC.mk' (by simp only [Tryz.f236, go_sem]; rfl)
noncomputable def fun236 : Fun := ⟨[0, 1, 9, 7, 8, 10, 6, 4], [], [], 2, s236.1, [.tmp 4], 0⟩
theorem ok236 : FnM Tryz.prog 236 fun236 := SC.okM s236 rfl (fn := Tryz.f236) (by kernel_rfl) (by kernel_rfl)
noncomputable def s247 : SC (Tryz.f247.body.getD .skip) := SC.mk' (by simp only [Tryz.f247, go_sem]; rfl)
noncomputable def fun247 : Fun := ⟨[0, 2], [], [], 1, s247.1, [.tmp 2], 0⟩
theorem ok247 : FnM Tryz.prog 247 fun247 := SC.okM s247 rfl (fn := Tryz.f247) (by kernel_rfl) (by kernel_rfl)
noncomputable def s250 : SC (Tryz.f250.body.getD .skip) := SC.mk' (by simp only [Tryz.f250, go_sem]; rfl)
noncomputable def fun250 : Fun := ⟨[0, 1, 2, 3, 4, 8, 7, 10, 11, 17, 23, 39, 9], [4, 7, 8], [], 4, s250.1, [.cell 8 true 11, .tmp 9], 7⟩
theorem ok250 : FnM Tryz.prog 250 fun250 := SC.okM s250 rfl (fn := Tryz.f250) (by kernel_rfl) (by kernel_rfl)
noncomputable def s255 : SC (Tryz.f255.body.getD .skip) := SC.mk' (by simp only [Tryz.f255, go_sem]; rfl)
noncomputable def fun255 : Fun := ⟨[0, 1, 4, 14, 12, 3, 5, 6, 10, 13, 15, 23, 25, 30, 35, 57, 61, 2], [1, 4], [], 1, s255.1, [.tmp 2], 5⟩
theorem ok255 : FnM Tryz.prog 255 fun255 := SC.okM s255 rfl (fn := Tryz.f255) (by kernel_rfl) (by kernel_rfl)
noncomputable def s258 : SC (Tryz.f258.body.getD .skip) := SC.mk' (by simp only [Tryz.f258, go_sem]; rfl)
noncomputable def fun258 : Fun := ⟨[0, 13, 1, 3, 11, 5, 12, 14, 2], [1, 5], [], 1, s258.1, [.tmp 2], 4⟩
theorem ok258 : FnM Tryz.prog 258 fun258 := SC.okM s258 rfl (fn := Tryz.f258) (by kernel_rfl) (by kernel_rfl)
noncomputable def s259 : SC (Tryz.f259.body.getD .skip) := SC.mk' (by simp only [Tryz.f259, go_sem]; rfl)
noncomputable def fun259 : Fun := ⟨[0, 1, 4], [], [], 2, s259.1, [.tmp 4], 1⟩
theorem ok259 : FnM Tryz.prog 259 fun259 := SC.okM s259 rfl (fn := Tryz.f259) (by kernel_rfl) (by kernel_rfl)
noncomputable def s264 : SC (Tryz.f264.body.getD .skip) := SC.mk' (by simp only [Tryz.f264, go_sem]; rfl)
noncomputable def fun264 : Fun := ⟨[0, 1, 2], [1, 2], [], 1, s264.1, [.cell 2 true 3], 1⟩
theorem ok264 : FnM Tryz.prog 264 fun264 := SC.okM s264 rfl (fn := Tryz.f264) (by kernel_rfl) (by kernel_rfl)
noncomputable def s267 : SC (Tryz.f267.body.getD .skip) := SC.mk' (by simp only [Tryz.f267, go_sem]; rfl)
noncomputable def fun267 : Fun := ⟨[0, 4, 2], [], [], 1, s267.1, [.tmp 2], 0⟩
theorem ok267 : FnM Tryz.prog 267 fun267 := SC.okM s267 rfl (fn := Tryz.f267) (by kernel_rfl) (by kernel_rfl)
noncomputable def s272 : SC (Tryz.f272.body.getD .skip) := SC.mk' (by simp only [Tryz.f272, go_sem]; rfl)
noncomputable def fun272 : Fun := ⟨[0, 1, 3, 6, 10, 12, 16, 20, 4, 5], [3], [27], 2, s272.1, [.tmp 4, .tmp 5], 5⟩
theorem ok272 : FnM Tryz.prog 272 fun272 := SC.okM s272 rfl (fn := Tryz.f272) (by kernel_rfl) (by kernel_rfl)
noncomputable def s273 : SC (Tryz.f273.body.getD .skip) := SC.mk' (by simp only [Tryz.f273, go_sem]; rfl)
noncomputable def fun273 : Fun := ⟨[0, 1, 2, 6, 3], [1, 2], [], 1, s273.1, [.cell 2 true 5, .tmp 3], 0⟩
theorem ok273 : FnM Tryz.prog 273 fun273 := SC.okM s273 rfl (fn := Tryz.f273) (by kernel_rfl) (by kernel_rfl)
noncomputable def s274 : SC (Tryz.f274.body.getD .skip) := SC.mk' (by simp only [Tryz.f274, go_sem]; rfl)
noncomputable def fun274 : Fun := ⟨[0, 1, 2, 3, 5, 4, 8, 9, 20, 12, 14, 17, 11, 13, 15, 16, 18, 21, 40, 46, 52, 61, 69, 87, 93, 102, 110, 119, 138, 10], [4, 5, 8, 9, 11, 12, 14, 16, 17], [], 4, s274.1, [.cell 8 true 11, .cell 9 true 26, .tmp 10], 11⟩
theorem ok274 : FnM Tryz.prog 274 fun274 := SC.okM s274 rfl (fn := Tryz.f274) (by kernel_rfl) (by kernel_rfl)
noncomputable def s280 : SC (Tryz.f280.body.getD .skip) := SC.mk' (by simp only [Tryz.f280, go_sem]; rfl)
noncomputable def fun280 : Fun := ⟨[0, 2], [], [], 1, s280.1, [.tmp 2], 0⟩
theorem ok280 : FnM Tryz.prog 280 fun280 := SC.okM s280 rfl (fn := Tryz.f280) (by kernel_rfl) (by kernel_rfl)
noncomputable def s288 : SC (Tryz.f288.body.getD .skip) := SC.mk' (by simp only [Tryz.f288, go_sem]; rfl)
noncomputable def fun288 : Fun := ⟨[0, 1, 2, 4], [2, 4], [], 2, s288.1, [.cell 4 true 26], 0⟩
theorem ok288 : FnM Tryz.prog 288 fun288 := SC.okM s288 rfl (fn := Tryz.f288) (by kernel_rfl) (by kernel_rfl)
noncomputable def s297 : SC (Tryz.f297.body.getD .skip) := SC.mk' (by simp only [Tryz.f297, go_sem]; rfl)
noncomputable def fun297 : Fun := ⟨[0, 1, 5, 2], [1], [], 1, s297.1, [.tmp 2], 3⟩
theorem ok297 : FnM Tryz.prog 297 fun297 := SC.okM s297 rfl (fn := Tryz.f297) (by kernel_rfl) (by kernel_rfl)
noncomputable def s299 : SC (Tryz.f299.body.getD .skip) := SC.mk' (by simp only [Tryz.f299, go_sem]; rfl)
noncomputable def fun299 : Fun := ⟨[0, 1, 2, 4, 9, 6, 8, 10, 23, 32, 46, 7], [4, 6, 8, 10], [], 3, s299.1, [.cell 6 true 8, .tmp 7], 7⟩
theorem ok299 : FnM Tryz.prog 299 fun299 := SC.okM s299 rfl (fn := Tryz.f299) (by kernel_rfl) (by kernel_rfl)
noncomputable def s301 : SC (Tryz.f301.body.getD .skip) := SC.mk' (by simp only [Tryz.f301, go_sem]; rfl)
noncomputable def fun301 : Fun := ⟨[0, 1, 2, 4, 3, 6, 7, 9, 20, 37, 54, 58, 8], [3, 4, 6, 7], [], 3, s301.1, [.cell 6 true 11, .cell 7 true 5, .tmp 8], 3⟩
theorem ok301 : FnM Tryz.prog 301 fun301 := SC.okM s301 rfl (fn := Tryz.f301) (by kernel_rfl) (by kernel_rfl)
noncomputable def s302 : SC (Tryz.f302.body.getD .skip) := SC.mk' (by simp only [Tryz.f302, go_sem]; rfl)
noncomputable def fun302 : Fun := ⟨[0, 1, 5, 6, 7, 12, 19, 29, 4], [], [], 2, s302.1, [.tmp 4], 7⟩
theorem ok302 : FnM Tryz.prog 302 fun302 := SC.okM s302 rfl (fn := Tryz.f302) (by kernel_rfl) (by kernel_rfl)
noncomputable def s306 : SC (Tryz.f306.body.getD .skip) := SC.mk' (by simp only [Tryz.f306, go_sem]; rfl)
noncomputable def fun306 : Fun := ⟨[0, 1, 2, 6], [], [], 3, s306.1, [.tmp 6], 0⟩
theorem ok306 : FnM Tryz.prog 306 fun306 := SC.okM s306 rfl (fn := Tryz.f306) (by kernel_rfl) (by kernel_rfl)
noncomputable def s309 : SC (Tryz.f309.body.getD .skip) := SC.mk' (by simp only [Tryz.f309, go_sem]; rfl)
noncomputable def fun309 : Fun := ⟨[0, 2], [], [], 1, s309.1, [.tmp 2], 1⟩
theorem ok309 : FnM Tryz.prog 309 fun309 := SC.okM s309 rfl (fn := Tryz.f309) (by kernel_rfl) (by kernel_rfl)
noncomputable def s320 : SC (Tryz.f320.body.getD .skip) := SC.mk' (by simp only [Tryz.f320, go_sem]; rfl)
noncomputable def fun320 : Fun := ⟨[0, 1, 15, 4, 13, 11, 14, 16, 28, 2], [1, 4], [], 1, s320.1, [.tmp 2], 2⟩
theorem ok320 : FnM Tryz.prog 320 fun320 := SC.okM s320 rfl (fn := Tryz.f320) (by kernel_rfl) (by kernel_rfl)
noncomputable def s321 : SC (Tryz.f321.body.getD .skip) := SC.mk' (by simp only [Tryz.f321, go_sem]; rfl)
noncomputable def fun321 : Fun := ⟨[0, 1, 8, 5, 7, 9, 16, 4], [], [], 2, s321.1, [.tmp 4], 0⟩
theorem ok321 : FnM Tryz.prog 321 fun321 := SC.okM s321 rfl (fn := Tryz.f321) (by kernel_rfl) (by kernel_rfl)
noncomputable def s326 : SC (Tryz.f326.body.getD .skip) := SC.mk' (by simp only [Tryz.f326, go_sem]; rfl)
noncomputable def fun326 : Fun := ⟨[0, 1, 6, 5, 11, 12, 13, 16, 19, 4], [], [], 2, s326.1, [.tmp 4], 1⟩
theorem ok326 : FnM Tryz.prog 326 fun326 := SC.okM s326 rfl (fn := Tryz.f326) (by kernel_rfl) (by kernel_rfl)
noncomputable def s328 : SC (Tryz.f328.body.getD .skip) := SC.mk' (by simp only [Tryz.f328, go_sem]; rfl)
noncomputable def fun328 : Fun := ⟨[0, 1, 6, 5, 16, 29, 4], [], [], 2, s328.1, [.tmp 4], 5⟩
theorem ok328 : FnM Tryz.prog 328 fun328 := SC.okM s328 rfl (fn := Tryz.f328) (by kernel_rfl) (by kernel_rfl)
noncomputable def s329 : SC (Tryz.f329.body.getD .skip) := SC.mk' (by simp only [Tryz.f329, go_sem]; rfl)
noncomputable def fun329 : Fun := ⟨[0, 1, 2], [1], [], 1, s329.1, [.tmp 2], 0⟩
theorem ok329 : FnM Tryz.prog 329 fun329 := SC.okM s329 rfl (fn := Tryz.f329) (by kernel_rfl) (by kernel_rfl)
noncomputable def s331 : SC (Tryz.f331.body.getD .skip) := SC.mk' (by simp only [Tryz.f331, go_sem]; rfl)
noncomputable def fun331 : Fun := ⟨[0, 1, 2, 4, 6, 7, 15, 3, 9, 11, 56, 12, 13, 16, 10, 32, 36, 47, 49, 73, 90, 94, 101, 109, 8], [3, 4, 6, 7, 9, 12], [], 3, s331.1, [.cell 6 true 11, .cell 7 true 5, .tmp 8], 2⟩
theorem ok331 : FnM Tryz.prog 331 fun331 := SC.okM s331 rfl (fn := Tryz.f331) (by kernel_rfl) (by kernel_rfl)
noncomputable def s334 : SC (Tryz.f334.body.getD .skip) := SC.mk' (by simp only [Tryz.f334, go_sem]; rfl)
noncomputable def fun334 : Fun := ⟨[0, 1, 3, 2, 7, 9, 4, 5, 8, 21, 48, 6], [2, 3, 4, 5, 9], [33], 2, s334.1, [.cell 4 true 11, .cell 5 true 26, .tmp 6], 2⟩
theorem ok334 : FnM Tryz.prog 334 fun334 := SC.okM s334 rfl (fn := Tryz.f334) (by kernel_rfl) (by kernel_rfl)
noncomputable def s335 : SC (Tryz.f335.body.getD .skip) := SC.mk' (by simp only [Tryz.f335, go_sem]; rfl)
noncomputable def fun335 : Fun := ⟨[0, 1, 2, 4, 23, 6, 8, 3, 10, 25, 30, 37, 42, 47, 7], [3, 4, 6], [], 3, s335.1, [.cell 6 true 4, .tmp 7], 1⟩
theorem ok335 : FnM Tryz.prog 335 fun335 := SC.okM s335 rfl (fn := Tryz.f335) (by kernel_rfl) (by kernel_rfl)
noncomputable def s338 : SC (Tryz.f338.body.getD .skip) := SC.mk' (by simp only [Tryz.f338, go_sem]; rfl)
noncomputable def fun338 : Fun := ⟨[0, 1, 2, 4, 3, 9, 12, 6, 7, 10, 11, 22, 45, 63, 76, 8], [3, 4, 6, 7, 10, 11], [], 3, s338.1, [.cell 6 true 11, .cell 7 true 26, .tmp 8], 10⟩
theorem ok338 : FnM Tryz.prog 338 fun338 := SC.okM s338 rfl (fn := Tryz.f338) (by kernel_rfl) (by kernel_rfl)
noncomputable def s340 : SC (Tryz.f340.body.getD .skip) := SC.mk' (by simp only [Tryz.f340, go_sem]; rfl)
noncomputable def fun340 : Fun := ⟨[0, 1, 2, 7, 8, 3, 6, 20], [3, 6, 7], [], 3, s340.1, [.cell 6 true 3], 0⟩
theorem ok340 : FnM Tryz.prog 340 fun340 := SC.okM s340 rfl (fn := Tryz.f340) (by kernel_rfl) (by kernel_rfl)
noncomputable def s355 : SC (Tryz.f355.body.getD .skip) := SC.mk' (by simp only [Tryz.f355, go_sem]; rfl)
noncomputable def fun355 : Fun := ⟨[0, 1, 2, 6, 3, 4, 8, 9, 13, 17, 23, 10, 11, 33, 38, 43, 49, 12, 63, 7], [3, 4, 6], [68], 3, s355.1, [.cell 6 true 2, .tmp 7], 6⟩
theorem ok355 : FnM Tryz.prog 355 fun355 := SC.okM s355 rfl (fn := Tryz.f355) (by kernel_rfl) (by kernel_rfl)
noncomputable def s356 : SC (Tryz.f356.body.getD .skip) := SC.mk' (by simp only [Tryz.f356, go_sem]; rfl)
noncomputable def fun356 : Fun := ⟨[0, 1, 2, 3, 6, 9, 10, 23, 26, 7, 8], [3, 6], [], 3, s356.1, [.cell 6 true 11, .tmp 7, .tmp 8], 2⟩
theorem ok356 : FnM Tryz.prog 356 fun356 := SC.okM s356 rfl (fn := Tryz.f356) (by kernel_rfl) (by kernel_rfl)
noncomputable def s369 : SC (Tryz.f369.body.getD .skip) := SC.mk' (by simp only [Tryz.f369, go_sem]; rfl)
noncomputable def fun369 : Fun := ⟨[0, 1, 8, 5, 7, 9, 16, 4], [], [], 2, s369.1, [.tmp 4], 1⟩
theorem ok369 : FnM Tryz.prog 369 fun369 := SC.okM s369 rfl (fn := Tryz.f369) (by kernel_rfl) (by kernel_rfl)
noncomputable def s373 : SC (Tryz.f373.body.getD .skip) := SC.mk' (by simp only [Tryz.f373, go_sem]; rfl)
noncomputable def fun373 : Fun := ⟨[0, 1, 2, 3], [2], [], 2, s373.1, [.tmp 3], 0⟩
theorem ok373 : FnM Tryz.prog 373 fun373 := SC.okM s373 rfl (fn := Tryz.f373) (by kernel_rfl) (by kernel_rfl)
noncomputable def s375 : SC (Tryz.f375.body.getD .skip) := SC.mk' (by simp only [Tryz.f375, go_sem]; rfl)
noncomputable def fun375 : Fun := ⟨[0, 1, 2, 3, 6, 22, 27, 7, 8], [3, 6], [], 3, s375.1, [.cell 6 true 11, .tmp 7, .tmp 8], 1⟩
theorem ok375 : FnM Tryz.prog 375 fun375 := SC.okM s375 rfl (fn := Tryz.f375) (by kernel_rfl) (by kernel_rfl)
noncomputable def s380 : SC (Tryz.f380.body.getD .skip) := SC.mk' (by simp only [Tryz.f380, go_sem]; rfl)
noncomputable def fun380 : Fun := ⟨[0, 1, 2, 4, 9, 5], [2, 4], [], 2, s380.1, [.cell 4 true 8, .tmp 5], 1⟩
theorem ok380 : FnM Tryz.prog 380 fun380 := SC.okM s380 rfl (fn := Tryz.f380) (by kernel_rfl) (by kernel_rfl)
noncomputable def s385 : SC (Tryz.f385.body.getD .skip) := SC.mk' (by simp only [Tryz.f385, go_sem]; rfl)
noncomputable def fun385 : Fun := ⟨[0, 1, 5, 2, 11, 21, 4], [2], [], 2, s385.1, [.tmp 4], 0⟩
theorem ok385 : FnM Tryz.prog 385 fun385 := SC.okM s385 rfl (fn := Tryz.f385) (by kernel_rfl) (by kernel_rfl)
noncomputable def s386 : SC (Tryz.f386.body.getD .skip) := SC.mk' (by simp only [Tryz.f386, go_sem]; rfl)
noncomputable def fun386 : Fun := ⟨[0, 1, 2, 3, 8, 4, 5, 10, 20, 25, 30, 46, 11, 12, 9], [4, 5, 8], [], 4, s386.1, [.cell 8 true 4, .tmp 9], 9⟩
theorem ok386 : FnM Tryz.prog 386 fun386 := SC.okM s386 rfl (fn := Tryz.f386) (by kernel_rfl) (by kernel_rfl)
noncomputable def s389 : SC (Tryz.f389.body.getD .skip) := SC.mk' (by simp only [Tryz.f389, go_sem]; rfl)
noncomputable def fun389 : Fun := ⟨[0, 1, 2, 6, 3], [1, 2], [], 1, s389.1, [.cell 2 true 5, .tmp 3], 0⟩
theorem ok389 : FnM Tryz.prog 389 fun389 := SC.okM s389 rfl (fn := Tryz.f389) (by kernel_rfl) (by kernel_rfl)
noncomputable def s395 : SC (Tryz.f395.body.getD .skip) := SC.mk' (by simp only [Tryz.f395, go_sem]; rfl)
noncomputable def fun395 : Fun := ⟨[0, 1, 2, 3, 6, 11], [3, 6], [], 3, s395.1, [.cell 6 true 11], 1⟩
theorem ok395 : FnM Tryz.prog 395 fun395 := SC.okM s395 rfl (fn := Tryz.f395) (by kernel_rfl) (by kernel_rfl)
noncomputable def s401 : SC (Tryz.f401.body.getD .skip) := SC.mk' (by simp only [Tryz.f401, go_sem]; rfl)
noncomputable def fun401 : Fun := ⟨[0, 1, 2, 3, 6, 11], [3, 6], [], 3, s401.1, [.cell 6 true 11], 0⟩
theorem ok401 : FnM Tryz.prog 401 fun401 := SC.okM s401 rfl (fn := Tryz.f401) (by kernel_rfl) (by kernel_rfl)
noncomputable def s412 : SC (Tryz.f412.body.getD .skip) := SC.mk' (by simp only [Tryz.f412, go_sem]; rfl)
noncomputable def fun412 : Fun := ⟨[0, 1, 2, 3, 9, 8, 14, 34], [], [], 4, s412.1, [], 3⟩
theorem ok412 : FnM Tryz.prog 412 fun412 := SC.okM s412 rfl (fn := Tryz.f412) (by kernel_rfl) (by kernel_rfl)
end Go.M
