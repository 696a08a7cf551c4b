/-
  The codes of functions, as the machine takes them.
  No condition: definitions and lemmas.
-/
import Derived.Test.YtncnaejhbmnkbaaGreatQtyA
set_option linter.all false
set_option maxRecDepth 100000
set_option maxHeartbeats 4000000
namespace Go.M
open Go Go.Proofs
open Go.Eng (SOp SOper SCode sizeP aggP zerosOf bytesP zeroVal stripCode stripOps stripOper strip stripParts kindsOf)

noncomputable def s6 : SC (Tryz.f6.body.getD .skip) := SC.mk' (by simp only [Tryz.f6, go_sem]; rfl)
noncomputable def fun6 : Fun := ⟨[0, 1, 5, 2], [1], [], 1, s6.1, [.tmp 2], 8⟩
theorem ok6 : FnM Tryz.prog 6 fun6 := SC.okM s6 rfl (fn := Tryz.f6) (by kernel_rfl) (by kernel_rfl)
noncomputable def s10 : SC (Tryz.f10.body.getD .skip) := SC.mk' (by simp only [Tryz.f10, go_sem]; rfl)
noncomputable def fun10 : Fun := ⟨[0, 2, 4, 5, 12, 3], [2, 4], [], 1, s10.1, [.cell 2 true 8, .tmp 3], 1⟩
theorem ok10 : FnM Tryz.prog 10 fun10 := SC.okM s10 rfl (fn := Tryz.f10) (by kernel_rfl) (by kernel_rfl)
noncomputable def s20 : SC (Tryz.f20.body.getD .skip) := SC.mk' (by simp only [Tryz.f20, go_sem]; rfl)
noncomputable def fun20 : Fun := ⟨[0, 1, 2, 11, 5, 6, 63, 86, 3, 38, 109, 129, 12, 23, 28, 37, 62, 76, 85, 108, 116, 117, 128, 4], [2, 3], [], 2, s20.1, [.tmp 4], 1⟩
theorem ok20 : FnM Tryz.prog 20 fun20 := SC.okM s20 rfl (fn := Tryz.f20) (by kernel_rfl) (by kernel_rfl)
noncomputable def s25 : SC (Tryz.f25.body.getD .skip) := SC.mk' (by simp only [Tryz.f25, go_sem]; rfl)
noncomputable def fun25 : Fun := ⟨[0, 1, 3, 2, 4, 6, 5], [2, 3, 4], [], 2, s25.1, [.cell 4 true 63, .tmp 5], 6⟩
theorem ok25 : FnM Tryz.prog 25 fun25 := SC.okM s25 rfl (fn := Tryz.f25) (by kernel_rfl) (by kernel_rfl)
noncomputable def s27 : SC (Tryz.f27.body.getD .skip) := SC.mk' (by simp only [Tryz.f27, go_sem]; rfl)
noncomputable def fun27 : Fun := ⟨[0, 1, 6, 7, 8, 3, 4, 5, 13, 19, 31, 43, 49, 55, 61, 81, 85, 96, 2], [1], [], 1, s27.1, [.tmp 2], 6⟩
theorem ok27 : FnM Tryz.prog 27 fun27 := SC.okM s27 rfl (fn := Tryz.f27) (by kernel_rfl) (by kernel_rfl)
noncomputable def s32 : SC (Tryz.f32.body.getD .skip) := SC.mk' (by simp only [Tryz.f32, go_sem]; rfl)
noncomputable def fun32 : Fun := ⟨[0, 1, 2, 6, 7, 11, 15, 4, 5], [2], [], 2, s32.1, [.tmp 4, .tmp 5], 0⟩
theorem ok32 : FnM Tryz.prog 32 fun32 := SC.okM s32 rfl (fn := Tryz.f32) (by kernel_rfl) (by kernel_rfl)
noncomputable def s35 : SC (Tryz.f35.body.getD .skip) := SC.mk' (by simp only [Tryz.f35, go_sem]; rfl)
noncomputable def fun35 : Fun := ⟨[0, 2, 9, 3], [2], [], 1, s35.1, [.cell 2 true 2, .tmp 3], 0⟩
theorem ok35 : FnM Tryz.prog 35 fun35 := SC.okM s35 rfl (fn := Tryz.f35) (by kernel_rfl) (by kernel_rfl)
noncomputable def s38 : SC (Tryz.f38.body.getD .skip) := SC.mk' (by simp only [Tryz.f38, go_sem]; rfl)
noncomputable def fun38 : Fun := ⟨[0, 1, 6, 13, 2, 11, 9, 12, 14, 26, 4], [2, 6], [], 2, s38.1, [.tmp 4], 5⟩
theorem ok38 : FnM Tryz.prog 38 fun38 := SC.okM s38 rfl (fn := Tryz.f38) (by kernel_rfl) (by kernel_rfl)
noncomputable def s42 : SC (Tryz.f42.body.getD .skip) := SC.mk' (by simp only [Tryz.f42, go_sem]; rfl)
noncomputable def fun42 : Fun := ⟨[0, 1, 2, 3, 4, 29, 7, 27, 10, 24, 28, 30, 6, 51, 61, 67, 5], [2, 3, 4], [], 2, s42.1, [.cell 4 true 26, .tmp 5], 3⟩
theorem ok42 : FnM Tryz.prog 42 fun42 := SC.okM s42 rfl (fn := Tryz.f42) (by kernel_rfl) (by kernel_rfl)
noncomputable def s44 : SC (Tryz.f44.body.getD .skip) := SC.mk' (by simp only [Tryz.f44, go_sem]; rfl)
noncomputable def fun44 : Fun := ⟨[0, 1, 3, 5, 8, 4, 6, 7, 39, 44, 58, 64, 73, 78, 89, 2], [1], [], 1, s44.1, [.tmp 2], 2⟩
theorem ok44 : FnM Tryz.prog 44 fun44 := SC.okM s44 rfl (fn := Tryz.f44) (by kernel_rfl) (by kernel_rfl)
noncomputable def s51 : SC (Tryz.f51.body.getD .skip) := SC.mk' (by simp only [Tryz.f51, go_sem]; rfl)
noncomputable def fun51 : Fun := ⟨[0, 2], [], [], 1, s51.1, [.tmp 2], 0⟩
theorem ok51 : FnM Tryz.prog 51 fun51 := SC.okM s51 rfl (fn := Tryz.f51) (by kernel_rfl) (by kernel_rfl)
noncomputable def s59 : SC (Tryz.f59.body.getD .skip) := SC.mk' (by simp only [Tryz.f59, go_sem]; rfl)
noncomputable def fun59 : Fun := ⟨[0, 1, 3, 39, 37, 5, 9, 26, 31, 38, 40, 4, 50, 54, 2], [1, 5], [], 1, s59.1, [.tmp 2], 4⟩
theorem ok59 : FnM Tryz.prog 59 fun59 := SC.okM s59 rfl (fn := Tryz.f59) (by kernel_rfl) (by kernel_rfl)
noncomputable def s63 : SC (Tryz.f63.body.getD .skip) := SC.mk' (by simp only [Tryz.f63, go_sem]; rfl)
noncomputable def fun63 : Fun := ⟨[0, 1, 2], [1, 2], [], 1, s63.1, [.cell 2 true 6], 0⟩
theorem ok63 : FnM Tryz.prog 63 fun63 := SC.okM s63 rfl (fn := Tryz.f63) (by kernel_rfl) (by kernel_rfl)
noncomputable def s65 : SC (Tryz.f65.body.getD .skip) := SC.mk' (by simp only [Tryz.f65, go_sem]; rfl)
noncomputable def fun65 : Fun := ⟨[0, 1, 5, 2], [1], [], 1, s65.1, [.tmp 2], 7⟩
theorem ok65 : FnM Tryz.prog 65 fun65 := SC.okM s65 rfl (fn := Tryz.f65) (by kernel_rfl) (by kernel_rfl)
noncomputable def s67 : SC (Tryz.f67.body.getD .skip) := SC.mk' (by simp only [Tryz.f67, go_sem]; rfl)
noncomputable def fun67 : Fun := ⟨[0, 1, 2, 3, 4, 12, 10, 13, 23, 11], [10, 12], [], 5, s67.1, [.cell 10 true 7, .tmp 11], 2⟩
theorem ok67 : FnM Tryz.prog 67 fun67 := SC.okM s67 rfl (fn := Tryz.f67) (by kernel_rfl) (by kernel_rfl)
noncomputable def s73 : SC (Tryz.f73.body.getD .skip) := SC.mk' (by simp only [Tryz.f73, go_sem]; rfl)
noncomputable def fun73 : Fun := ⟨[0, 1, 38, 42, 2], [1], [], 1, s73.1, [.tmp 2], 1⟩
theorem ok73 : FnM Tryz.prog 73 fun73 := SC.okM s73 rfl (fn := Tryz.f73) (by kernel_rfl) (by kernel_rfl)
noncomputable def s74 : SC (Tryz.f74.body.getD .skip) := SC.mk' (by simp only [Tryz.f74, go_sem]; rfl)
noncomputable def fun74 : Fun := ⟨[0, 4, 5, 3, 8, 12, 20, 24, 35, 39, 52, 2], [], [], 1, s74.1, [.tmp 2], 1⟩
theorem ok74 : FnM Tryz.prog 74 fun74 := SC.okM s74 rfl (fn := Tryz.f74) (by kernel_rfl) (by kernel_rfl)
noncomputable def s86 : SC (Tryz.f86.body.getD .skip) := SC.mk' (by simp only [Tryz.f86, go_sem]; rfl)
noncomputable def fun86 : Fun := ⟨[0, 1, 2, 3], [2], [], 2, s86.1, [.tmp 3], 0⟩
theorem ok86 : FnM Tryz.prog 86 fun86 := SC.okM s86 rfl (fn := Tryz.f86) (by kernel_rfl) (by kernel_rfl)
noncomputable def s93 : SC (Tryz.f93.body.getD .skip) := SC.mk' (by simp only [Tryz.f93, go_sem]; rfl)
noncomputable def fun93 : Fun := ⟨[0, 3, 31, 2], [], [], 1, s93.1, [.tmp 2], 2⟩
theorem ok93 : FnM Tryz.prog 93 fun93 := SC.okM s93 rfl (fn := Tryz.f93) (by kernel_rfl) (by kernel_rfl)
noncomputable def s96 : SC (Tryz.f96.body.getD .skip) := SC.mk' (by simp only [Tryz.f96, go_sem]; rfl)
noncomputable def fun96 : Fun := ⟨[0, 3, 6, 4, 5, 44, 71, 106, 134, 156, 2], [4, 5], [], 1, s96.1, [.tmp 2], 11⟩
theorem ok96 : FnM Tryz.prog 96 fun96 := SC.okM s96 rfl (fn := Tryz.f96) (by kernel_rfl) (by kernel_rfl)
noncomputable def s98 : SC (Tryz.f98.body.getD .skip) := SC.mk' (by simp only [Tryz.f98, go_sem]; rfl)
noncomputable def fun98 : Fun := ⟨[0, 1, 2, 6], [], [], 3, s98.1, [.tmp 6], 0⟩
theorem ok98 : FnM Tryz.prog 98 fun98 := SC.okM s98 rfl (fn := Tryz.f98) (by kernel_rfl) (by kernel_rfl)
noncomputable def s100 : SC (Tryz.f100.body.getD .skip) := SC.mk' (by simp only [Tryz.f100, go_sem]; rfl)
noncomputable def fun100 : Fun := ⟨[0, 1, 2], [1], [], 1, s100.1, [.tmp 2], 0⟩
theorem ok100 : FnM Tryz.prog 100 fun100 := SC.okM s100 rfl (fn := Tryz.f100) (by kernel_rfl) (by kernel_rfl)
noncomputable def s109 : SC (Tryz.f109.body.getD .skip) := SC.mk' (by simp only [Tryz.f109, go_sem]; rfl)
noncomputable def fun109 : Fun := ⟨[0, 1, 5, 2], [1], [], 1, s109.1, [.tmp 2], 3⟩
theorem ok109 : FnM Tryz.prog 109 fun109 := SC.okM s109 rfl (fn := Tryz.f109) (by kernel_rfl) (by kernel_rfl)
noncomputable def s122 : SC (Tryz.f122.body.getD .skip) := SC.mk' (by simp only [Tryz.f122, go_sem]; rfl)
noncomputable def fun122 : Fun := ⟨[0, 1, 8, 5, 7, 9, 16, 4], [], [], 2, s122.1, [.tmp 4], 1⟩
theorem ok122 : FnM Tryz.prog 122 fun122 := SC.okM s122 rfl (fn := Tryz.f122) (by kernel_rfl) (by kernel_rfl)
noncomputable def s123 : SC (Tryz.f123.body.getD .skip) := SC.mk' (by simp only [Tryz.f123, go_sem]; rfl)
noncomputable def fun123 : Fun := ⟨[0, 1, 2, 3], [2], [], 2, s123.1, [.tmp 3], 0⟩
theorem ok123 : FnM Tryz.prog 123 fun123 := SC.okM s123 rfl (fn := Tryz.f123) (by kernel_rfl) (by kernel_rfl)
noncomputable def s126 : SC (Tryz.f126.body.getD .skip) := SC.mk' (by simp only [Tryz.f126, go_sem]; rfl)
noncomputable def fun126 : Fun := ⟨[0, 1], [], [], 2, s126.1, [], 0⟩
theorem ok126 : FnM Tryz.prog 126 fun126 := SC.okM s126 rfl (fn := Tryz.f126) (by kernel_rfl) (by kernel_rfl)
noncomputable def s129 : SC (Tryz.f129.body.getD .skip) := SC.mk' (by simp only [Tryz.f129, go_sem]; rfl)
noncomputable def fun129 : Fun := ⟨[0, 1, 2, 4, 10, 16, 3], [1, 2], [], 1, s129.1, [.cell 2 true 4, .tmp 3], 1⟩
theorem ok129 : FnM Tryz.prog 129 fun129 := SC.okM s129 rfl (fn := Tryz.f129) (by kernel_rfl) (by kernel_rfl)
noncomputable def s130 : SC (Tryz.f130.body.getD .skip) := SC.mk' (by simp only [Tryz.f130, go_sem]; rfl)
noncomputable def fun130 : Fun := ⟨[0, 1, 2, 3, 4, 7, 8, 30, 10, 18, 29, 31, 12, 35, 42, 9], [4, 7, 8], [], 4, s130.1, [.cell 8 true 11, .tmp 9], 3⟩
theorem ok130 : FnM Tryz.prog 130 fun130 := SC.okM s130 rfl (fn := Tryz.f130) (by kernel_rfl) (by kernel_rfl)
noncomputable def s144 : SC (Tryz.f144.body.getD .skip) := SC.mk' (by simp only [Tryz.f144, go_sem]; rfl)
noncomputable def fun144 : Fun := ⟨[0, 13, 1, 3, 11, 5, 12, 14, 2], [1, 5], [], 1, s144.1, [.tmp 2], 4⟩
theorem ok144 : FnM Tryz.prog 144 fun144 := SC.okM s144 rfl (fn := Tryz.f144) (by kernel_rfl) (by kernel_rfl)
noncomputable def s149 : SC (Tryz.f149.body.getD .skip) := SC.mk' (by simp only [Tryz.f149, go_sem]; rfl)
noncomputable def fun149 : Fun := ⟨[0, 1, 2, 3, 4, 6, 11, 5], [2, 3, 4], [], 2, s149.1, [.cell 4 true 3, .tmp 5], 4⟩
theorem ok149 : FnM Tryz.prog 149 fun149 := SC.okM s149 rfl (fn := Tryz.f149) (by kernel_rfl) (by kernel_rfl)
noncomputable def s185 : SC (Tryz.f185.body.getD .skip) := SC.mk' (by simp only [Tryz.f185, go_sem]; rfl)
noncomputable def fun185 : Fun := ⟨[0, 1, 2, 4, 3, 6, 7, 10, 21, 9, 38, 42, 53, 55, 8], [3, 4, 6, 7], [], 3, s185.1, [.cell 6 true 11, .cell 7 true 5, .tmp 8], 3⟩
theorem ok185 : FnM Tryz.prog 185 fun185 := SC.okM s185 rfl (fn := Tryz.f185) (by kernel_rfl) (by kernel_rfl)
noncomputable def s192 : SC (Tryz.f192.body.getD .skip) := SC.mk' (by simp only [Tryz.f192, go_sem]; rfl)
noncomputable def fun192 : Fun := ⟨[0, 2], [], [], 1, s192.1, [.tmp 2], 1⟩
theorem ok192 : FnM Tryz.prog 192 fun192 := SC.okM s192 rfl (fn := Tryz.f192) (by kernel_rfl) (by kernel_rfl)
noncomputable def s203 : SC (Tryz.f203.body.getD .skip) := SC.mk' (by simp only [Tryz.f203, go_sem]; rfl)
noncomputable def fun203 : Fun := ⟨[0, 13, 5, 11, 4, 8, 10, 12, 14, 3, 23, 28, 36, 2], [4], [], 1, s203.1, [.tmp 2], 4⟩
theorem ok203 : FnM Tryz.prog 203 fun203 := SC.okM s203 rfl (fn := Tryz.f203) (by kernel_rfl) (by kernel_rfl)
noncomputable def s210 : SC (Tryz.f210.body.getD .skip) := SC.mk' (by simp only [Tryz.f210, go_sem]; rfl)
noncomputable def fun210 : Fun := ⟨[0, 4, 2], [], [], 1, s210.1, [.tmp 2], 0⟩
theorem ok210 : FnM Tryz.prog 210 fun210 := SC.okM s210 rfl (fn := Tryz.f210) (by kernel_rfl) (by kernel_rfl)
noncomputable def s268 : SC (Tryz.f268.body.getD .skip) := SC.mk' (by simp only [Tryz.f268, go_sem]; rfl)
noncomputable def fun268 : Fun := ⟨[0, 2], [], [], 1, s268.1, [.tmp 2], 1⟩
theorem ok268 : FnM Tryz.prog 268 fun268 := SC.okM s268 rfl (fn := Tryz.f268) (by kernel_rfl) (by kernel_rfl)
noncomputable def s272 : SC (Tryz.f272.body.getD .skip) := SC.mk' (by simp only [Tryz.f272, go_sem]; rfl)
noncomputable def fun272 : Fun := ⟨[0, 1, 4], [], [], 2, s272.1, [.tmp 4], 3⟩
theorem ok272 : FnM Tryz.prog 272 fun272 := SC.okM s272 rfl (fn := Tryz.f272) (by kernel_rfl) (by kernel_rfl)
noncomputable def s278 : SC (Tryz.f278.body.getD .skip) := SC.mk' (by simp only [Tryz.f278, go_sem]; rfl)
noncomputable def fun278 : Fun := ⟨[0, 1, 8, 5, 7, 9, 16, 4], [], [], 2, s278.1, [.tmp 4], 1⟩
theorem ok278 : FnM Tryz.prog 278 fun278 := SC.okM s278 rfl (fn := Tryz.f278) (by kernel_rfl) (by kernel_rfl)
noncomputable def s312 : SC (Tryz.f312.body.getD .skip) := SC.mk' (by simp only [Tryz.f312, go_sem]; rfl)
noncomputable def fun312 : Fun := ⟨[0, 1, 2, 3], [2], [], 2, s312.1, [.tmp 3], 0⟩
theorem ok312 : FnM Tryz.prog 312 fun312 := SC.okM s312 rfl (fn := Tryz.f312) (by kernel_rfl) (by kernel_rfl)
end Go.M
