/-
  The codes of functions, as the machine takes them.
  No condition: definitions and lemmas.
-/
import Derived.Test.YtgnhijkjlebcmaaGreatQtyS
set_option linter.all false
set_option maxRecDepth 100000
set_option maxHeartbeats 4000000
namespace Go.M
open Go Go.Proofs
open Go.Eng (SOp SOper SCode sizeP aggP zerosOf bytesP zeroVal stripCode stripOps stripOper strip stripParts kindsOf kinds2)
noncomputable def s11 : SC (Tryz.f11.body.getD .skip) := SC.mk' (by simp only [Tryz.f11, go_sem]; rfl)
noncomputable def fun11 : Fun := ⟨[0, 1, 6, 8, 2, 5, 7, 9, 10, 21, 32, 45, 3, 4], [1, 2, 9], [], 1, s11.1, [.cell 2 true 23, .tmp 3, .tmp 4], 1105⟩
theorem ok11 : FnM Tryz.prog 11 fun11 := SC.okM s11 rfl (fn := Tryz.f11) (by kernel_rfl) (by kernel_rfl)
noncomputable def s46 : SC (Tryz.f46.body.getD .skip) := SC.mk' (by simp only [Tryz.f46, go_sem]; rfl)
noncomputable def fun46 : Fun := ⟨[0, 1, 2, 4, 12, 6, 7, 11, 13, 3, 26, 8, 9, 10], [3, 4, 6, 7, 11, 12], [], 3, s46.1, [.cell 6 true 11, .cell 7 true 63, .tmp 8, .tmp 9, .tmp 10], 845⟩
theorem ok46 : FnM Tryz.prog 46 fun46 := SC.okM s46 rfl (fn := Tryz.f46) (by kernel_rfl) (by kernel_rfl)
noncomputable def s54 : SC (Tryz.f54.body.getD .skip) := SC.mk' (by simp only [Tryz.f54, go_sem]; rfl)
noncomputable def fun54 : Fun := ⟨[0, 1, 4], [], [], 2, s54.1, [.tmp 4], 0⟩
theorem ok54 : FnM Tryz.prog 54 fun54 := SC.okM s54 rfl (fn := Tryz.f54) (by kernel_rfl) (by kernel_rfl)
noncomputable def s63 : SC (Tryz.f63.body.getD .skip) := SC.mk' (by simp only [Tryz.f63, go_sem]; rfl)
noncomputable def fun63 : Fun := ⟨[0, 2, 4, 5, 12, 3], [2, 4], [], 1, s63.1, [.cell 2 true 8, .tmp 3], 65⟩
theorem ok63 : FnM Tryz.prog 63 fun63 := SC.okM s63 rfl (fn := Tryz.f63) (by kernel_rfl) (by kernel_rfl)
noncomputable def s74 : SC (Tryz.f74.body.getD .skip) := SC.mk' (by simp only [Tryz.f74, go_sem]; rfl)
noncomputable def fun74 : Fun := ⟨[0, 1, 2, 4, 10], [2, 4], [], 2, s74.1, [.cell 4 true 63], 130⟩
theorem ok74 : FnM Tryz.prog 74 fun74 := SC.okM s74 rfl (fn := Tryz.f74) (by kernel_rfl) (by kernel_rfl)
noncomputable def s90 : SC (Tryz.f90.body.getD .skip) := SC.mk' (by simp only [Tryz.f90, go_sem]; rfl)
noncomputable def fun90 : Fun := ⟨[0, 1, 2, 9, 8, 27, 33, 6, 7], [], [], 3, s90.1, [.tmp 6, .tmp 7], 0⟩
theorem ok90 : FnM Tryz.prog 90 fun90 := SC.okM s90 rfl (fn := Tryz.f90) (by kernel_rfl) (by kernel_rfl)
noncomputable def s121 : SC (Tryz.f121.body.getD .skip) := SC.mk' (by simp only [Tryz.f121, go_sem]; rfl)
noncomputable def fun121 : Fun := ⟨[0, 3, 4, 5, 35, 2], [], [], 1, s121.1, [.tmp 2], 780⟩
theorem ok121 : FnM Tryz.prog 121 fun121 := SC.okM s121 rfl (fn := Tryz.f121) (by kernel_rfl) (by kernel_rfl)
noncomputable def s130 : SC (Tryz.f130.body.getD .skip) := SC.mk' (by simp only [Tryz.f130, go_sem]; rfl)
noncomputable def fun130 : Fun := ⟨[0, 1, 2, 3, 5, 4, 8, 9, 20, 12, 14, 17, 11, 13, 15, 16, 18, 21, 40, 46, 52, 61, 69, 87, 93, 102, 110, 119, 138, 10], [4, 5, 8, 9, 11, 12, 14, 16, 17], [], 4, s130.1, [.cell 8 true 11, .cell 9 true 26, .tmp 10], 715⟩
theorem ok130 : FnM Tryz.prog 130 fun130 := SC.okM s130 rfl (fn := Tryz.f130) (by kernel_rfl) (by kernel_rfl)
noncomputable def s158 : SC (Tryz.f158.body.getD .skip) := SC.mk' (by simp only [Tryz.f158, go_sem]; rfl)
noncomputable def fun158 : Fun := ⟨[0, 1, 2, 6, 7, 11, 15, 4, 5], [2], [], 2, s158.1, [.tmp 4, .tmp 5], 0⟩
theorem ok158 : FnM Tryz.prog 158 fun158 := SC.okM s158 rfl (fn := Tryz.f158) (by kernel_rfl) (by kernel_rfl)
noncomputable def s163 : SC (Tryz.f163.body.getD .skip) := SC.mk' (by simp only [Tryz.f163, go_sem]; rfl)
noncomputable def fun163 : Fun := ⟨[0, 1, 2, 5, 10, 4], [2], [], 2, s163.1, [.tmp 4], 195⟩
theorem ok163 : FnM Tryz.prog 163 fun163 := SC.okM s163 rfl (fn := Tryz.f163) (by kernel_rfl) (by kernel_rfl)
noncomputable def s181 : SC (Tryz.f181.body.getD .skip) := SC.mk' (by simp only [Tryz.f181, go_sem]; rfl)
noncomputable def fun181 : Fun := ⟨[0, 3, 8, 7, 4, 5, 22, 38, 6, 78, 92, 112, 145, 2], [5, 7], [], 1, s181.1, [.tmp 2], 585⟩
theorem ok181 : FnM Tryz.prog 181 fun181 := SC.okM s181 rfl (fn := Tryz.f181) (by kernel_rfl) (by kernel_rfl)
noncomputable def s185 : SC (Tryz.f185.body.getD .skip) := SC.mk' (by simp only [Tryz.f185, go_sem]; rfl)
noncomputable def fun185 : Fun := ⟨[0, 4, 3, 5, 12, 33, 52, 6, 71, 82, 2], [3, 5], [], 1, s185.1, [.tmp 2], 390⟩
theorem ok185 : FnM Tryz.prog 185 fun185 := SC.okM s185 rfl (fn := Tryz.f185) (by kernel_rfl) (by kernel_rfl)
noncomputable def s192 : SC (Tryz.f192.body.getD .skip) := SC.mk' (by simp only [Tryz.f192, go_sem]; rfl)
noncomputable def fun192 : Fun := ⟨[0, 2], [], [], 1, s192.1, [.tmp 2], 0⟩
theorem ok192 : FnM Tryz.prog 192 fun192 := SC.okM s192 rfl (fn := Tryz.f192) (by kernel_rfl) (by kernel_rfl)
noncomputable def s196 : SC (Tryz.f196.body.getD .skip) := SC.mk' (by simp only [Tryz.f196, go_sem]; rfl)
noncomputable def fun196 : Fun := ⟨[0, 1, 6, 3, 5, 2, 12, 24, 4], [2, 3], [], 2, s196.1, [.tmp 4], 0⟩
theorem ok196 : FnM Tryz.prog 196 fun196 := SC.okM s196 rfl (fn := Tryz.f196) (by kernel_rfl) (by kernel_rfl)
noncomputable def s207 : SC (Tryz.f207.body.getD .skip) := SC.mk' (by simp only [Tryz.f207, go_sem]; rfl)
noncomputable def fun207 : Fun := ⟨[0, 1, 5, 9, 18, 4], [], [], 2, s207.1, [.tmp 4], 0⟩
theorem ok207 : FnM Tryz.prog 207 fun207 := SC.okM s207 rfl (fn := Tryz.f207) (by kernel_rfl) (by kernel_rfl)
noncomputable def s242 : SC (Tryz.f242.body.getD .skip) := SC.mk' (by simp only [Tryz.f242, go_sem]; rfl)
noncomputable def fun242 : Fun := ⟨[0, 1, 5, 6, 2, 7, 9, 3, 4], [1, 2, 5, 6], [], 1, s242.1, [.cell 2 true 8, .tmp 3, .tmp 4], 585⟩
theorem ok242 : FnM Tryz.prog 242 fun242 := SC.okM s242 rfl (fn := Tryz.f242) (by kernel_rfl) (by kernel_rfl)
noncomputable def s278 : SC (Tryz.f278.body.getD .skip) := SC.mk' (by simp only [Tryz.f278, go_sem]; rfl)
noncomputable def fun278 : Fun := ⟨[0, 1, 2, 4, 6, 11, 3, 8, 9, 13, 22, 33, 44, 48, 52, 7], [3, 4, 6], [], 3, s278.1, [.cell 6 true 4, .tmp 7], 65⟩
theorem ok278 : FnM Tryz.prog 278 fun278 := SC.okM s278 rfl (fn := Tryz.f278) (by kernel_rfl) (by kernel_rfl)
noncomputable def s282 : SC (Tryz.f282.body.getD .skip) := SC.mk' (by simp only [Tryz.f282, go_sem]; rfl)
noncomputable def fun282 : Fun := ⟨[0, 1, 2, 3, 6, 5, 9, 13, 22, 28, 7, 8], [3, 5, 6], [], 3, s282.1, [.cell 6 true 11, .tmp 7, .tmp 8], 325⟩
theorem ok282 : FnM Tryz.prog 282 fun282 := SC.okM s282 rfl (fn := Tryz.f282) (by kernel_rfl) (by kernel_rfl)
noncomputable def s291 : SC (Tryz.f291.body.getD .skip) := SC.mk' (by simp only [Tryz.f291, go_sem]; rfl)
noncomputable def fun291 : Fun := ⟨[0, 4, 2], [], [], 1, s291.1, [.tmp 2], 0⟩
theorem ok291 : FnM Tryz.prog 291 fun291 := SC.okM s291 rfl (fn := Tryz.f291) (by kernel_rfl) (by kernel_rfl)
noncomputable def s298 : SC (Tryz.f298.body.getD .skip) := SC.mk' (by simp only [Tryz.f298, go_sem]; rfl)
noncomputable def fun298 : Fun := ⟨[0, 1, 2, 4, 14, 20, 3], [1, 2], [], 1, s298.1, [.cell 2 true 4, .tmp 3], 0⟩
theorem ok298 : FnM Tryz.prog 298 fun298 := SC.okM s298 rfl (fn := Tryz.f298) (by kernel_rfl) (by kernel_rfl)
noncomputable def s311 : SC (Tryz.f311.body.getD .skip) := SC.mk' (by simp only [Tryz.f311, go_sem]; rfl)
noncomputable def fun311 : Fun := ⟨[0, 1, 2], [1], [], 1, s311.1, [.tmp 2], 260⟩
theorem ok311 : FnM Tryz.prog 311 fun311 := SC.okM s311 rfl (fn := Tryz.f311) (by kernel_rfl) (by kernel_rfl)
noncomputable def s319 : SC (Tryz.f319.body.getD .skip) := SC.mk' (by simp only [Tryz.f319, go_sem]; rfl)
noncomputable def fun319 : Fun := ⟨[0, 1, 2], [1], [], 1, s319.1, [.tmp 2], 0⟩
theorem ok319 : FnM Tryz.prog 319 fun319 := SC.okM s319 rfl (fn := Tryz.f319) (by kernel_rfl) (by kernel_rfl)
noncomputable def s338 : SC (Tryz.f338.body.getD .skip) := SC.mk' (by simp only [Tryz.f338, go_sem]; rfl)
noncomputable def fun338 : Fun := ⟨[0, 1, 2, 3, 4, 6, 11, 5], [2, 3, 4], [], 2, s338.1, [.cell 4 true 3, .tmp 5], 975⟩
theorem ok338 : FnM Tryz.prog 338 fun338 := SC.okM s338 rfl (fn := Tryz.f338) (by kernel_rfl) (by kernel_rfl)
noncomputable def s370 : SC (Tryz.f370.body.getD .skip) := SC.mk' (by simp only [Tryz.f370, go_sem]; rfl)
noncomputable def fun370 : Fun := ⟨[0, 1, 2, 6, 3, 4, 8, 9, 13, 17, 23, 10, 11, 33, 38, 43, 49, 12, 63, 7], [3, 4, 6], [], 3, s370.1, [.cell 6 true 2, .tmp 7], 390⟩
theorem ok370 : FnM Tryz.prog 370 fun370 := SC.okM s370 rfl (fn := Tryz.f370) (by kernel_rfl) (by kernel_rfl)
noncomputable def s374 : SC (Tryz.f374.body.getD .skip) := SC.mk' (by simp only [Tryz.f374, go_sem]; rfl)
noncomputable def fun374 : Fun := ⟨[0, 1, 38, 42, 2], [1], [], 1, s374.1, [.tmp 2], 65⟩
theorem ok374 : FnM Tryz.prog 374 fun374 := SC.okM s374 rfl (fn := Tryz.f374) (by kernel_rfl) (by kernel_rfl)
noncomputable def s385 : SC (Tryz.f385.body.getD .skip) := SC.mk' (by simp only [Tryz.f385, go_sem]; rfl)
noncomputable def fun385 : Fun := ⟨[0, 1, 2, 7, 6], [], [], 3, s385.1, [.tmp 6], 0⟩
theorem ok385 : FnM Tryz.prog 385 fun385 := SC.okM s385 rfl (fn := Tryz.f385) (by kernel_rfl) (by kernel_rfl)
noncomputable def s394 : SC (Tryz.f394.body.getD .skip) := SC.mk' (by simp only [Tryz.f394, go_sem]; rfl)
noncomputable def fun394 : Fun := ⟨[0, 1, 2, 3, 5, 6, 10, 15, 17, 24, 4], [2, 3], [], 2, s394.1, [.tmp 4], 910⟩
theorem ok394 : FnM Tryz.prog 394 fun394 := SC.okM s394 rfl (fn := Tryz.f394) (by kernel_rfl) (by kernel_rfl)
noncomputable def s396 : SC (Tryz.f396.body.getD .skip) := SC.mk' (by simp only [Tryz.f396, go_sem]; rfl)
noncomputable def fun396 : Fun := ⟨[0, 1, 2, 4, 5], [2], [], 2, s396.1, [.tmp 4, .tmp 5], 260⟩
theorem ok396 : FnM Tryz.prog 396 fun396 := SC.okM s396 rfl (fn := Tryz.f396) (by kernel_rfl) (by kernel_rfl)
noncomputable def s413 : SC (Tryz.f413.body.getD .skip) := SC.mk' (by simp only [Tryz.f413, go_sem]; rfl)
noncomputable def fun413 : Fun := ⟨[0, 1, 2, 7, 8, 9, 16, 22, 31, 68, 6], [], [], 3, s413.1, [.tmp 6], 0⟩
theorem ok413 : FnM Tryz.prog 413 fun413 := SC.okM s413 rfl (fn := Tryz.f413) (by kernel_rfl) (by kernel_rfl)
noncomputable def s418 : SC (Tryz.f418.body.getD .skip) := SC.mk' (by simp only [Tryz.f418, go_sem]; rfl)
noncomputable def fun418 : Fun := ⟨[0, 1, 2, 6], [], [], 3, s418.1, [.tmp 6], 0⟩
theorem ok418 : FnM Tryz.prog 418 fun418 := SC.okM s418 rfl (fn := Tryz.f418) (by kernel_rfl) (by kernel_rfl)
noncomputable def s419 : SC (Tryz.f419.body.getD .skip) := SC.mk' (by simp only [Tryz.f419, go_sem]; rfl)
noncomputable def fun419 : Fun := ⟨[0, 1, 8, 5, 7, 9, 16, 4], [], [], 2, s419.1, [.tmp 4], 0⟩
theorem ok419 : FnM Tryz.prog 419 fun419 := SC.okM s419 rfl (fn := Tryz.f419) (by kernel_rfl) (by kernel_rfl)
noncomputable def s440 : SC (Tryz.f440.body.getD .skip) := SC.mk' (by simp only [Tryz.f440, go_sem]; rfl)
noncomputable def fun440 : Fun := ⟨[0, 1, 3, 4], [3], [], 2, s440.1, [.tmp 4], 65⟩
theorem ok440 : FnM Tryz.prog 440 fun440 := SC.okM s440 rfl (fn := Tryz.f440) (by kernel_rfl) (by kernel_rfl)
noncomputable def s444 : SC (Tryz.f444.body.getD .skip) := SC.mk' (by simp only [Tryz.f444, go_sem]; rfl)
noncomputable def fun444 : Fun := ⟨[0, 1, 2, 3], [2], [], 2, s444.1, [.tmp 3], 0⟩
theorem ok444 : FnM Tryz.prog 444 fun444 := SC.okM s444 rfl (fn := Tryz.f444) (by kernel_rfl) (by kernel_rfl)
noncomputable def s450 : SC (Tryz.f450.body.getD .skip) := SC.mk' (by simp only [Tryz.f450, go_sem]; rfl)
noncomputable def fun450 : Fun := ⟨[0, 1, 2, 3, 4], [2, 3], [], 2, s450.1, [.tmp 4], 130⟩
theorem ok450 : FnM Tryz.prog 450 fun450 := SC.okM s450 rfl (fn := Tryz.f450) (by kernel_rfl) (by kernel_rfl)
noncomputable def s453 : SC (Tryz.f453.body.getD .skip) := SC.mk' (by simp only [Tryz.f453, go_sem]; rfl)
noncomputable def fun453 : Fun := ⟨[0, 1, 8, 5, 3, 7, 9, 16, 4], [3], [], 2, s453.1, [.tmp 4], 0⟩
theorem ok453 : FnM Tryz.prog 453 fun453 := SC.okM s453 rfl (fn := Tryz.f453) (by kernel_rfl) (by kernel_rfl)
end Go.M
