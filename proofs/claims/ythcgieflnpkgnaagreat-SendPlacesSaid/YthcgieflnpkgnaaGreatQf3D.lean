/-
  The codes of functions, as the machine takes them.
  No condition: definitions and lemmas.
-/
import Derived.Test.YthcgieflnpkgnaaGreatQtyD
set_option linter.all false
set_option maxRecDepth 100000
set_option maxHeartbeats 4000000
namespace Go.M
open Go Go.Proofs
open Go.Eng (SOp SOper SCode sizeP aggP zerosOf bytesP zeroVal stripCode stripOps stripOper strip stripParts kindsOf)

noncomputable def s7 : SC (Tryz.f7.body.getD .skip) := SC.mk' (by simp only [Tryz.f7, go_sem]; rfl)
noncomputable def fun7 : Fun := ⟨[0, 1, 6, 7, 4, 8, 2, 57, 78, 90, 3], [1, 2, 4, 6, 8], [], 1, s7.1, [.cell 2 true 11, .tmp 3], 2⟩
theorem ok7 : FnM Tryz.prog 7 fun7 := SC.okM s7 rfl (fn := Tryz.f7) (by kernel_rfl) (by kernel_rfl)
noncomputable def s54 : SC (Tryz.f54.body.getD .skip) := SC.mk' (by simp only [Tryz.f54, go_sem]; rfl)
noncomputable def fun54 : Fun := ⟨[0, 2, 9, 3], [2], [], 1, s54.1, [.cell 2 true 3, .tmp 3], 0⟩
theorem ok54 : FnM Tryz.prog 54 fun54 := SC.okM s54 rfl (fn := Tryz.f54) (by kernel_rfl) (by kernel_rfl)
noncomputable def s59 : SC (Tryz.f59.body.getD .skip) := SC.mk' (by simp only [Tryz.f59, go_sem]; rfl)
noncomputable def fun59 : Fun := ⟨[0, 1, 2, 4, 6, 9, 10, 11, 3, 18, 24, 7, 8], [3, 4, 6, 11], [], 3, s59.1, [.cell 6 true 63, .tmp 7, .tmp 8], 2⟩
theorem ok59 : FnM Tryz.prog 59 fun59 := SC.okM s59 rfl (fn := Tryz.f59) (by kernel_rfl) (by kernel_rfl)
noncomputable def s63 : SC (Tryz.f63.body.getD .skip) := SC.mk' (by simp only [Tryz.f63, go_sem]; rfl)
noncomputable def fun63 : Fun := ⟨[0, 1, 3, 5, 8, 4, 6, 7, 39, 44, 58, 64, 73, 78, 89, 2], [1], [], 1, s63.1, [.tmp 2], 2⟩
theorem ok63 : FnM Tryz.prog 63 fun63 := SC.okM s63 rfl (fn := Tryz.f63) (by kernel_rfl) (by kernel_rfl)
noncomputable def s98 : SC (Tryz.f98.body.getD .skip) := SC.mk' (by simp only [Tryz.f98, go_sem]; rfl)
noncomputable def fun98 : Fun := ⟨[0, 1, 2, 6, 7, 11, 15, 4, 5], [2], [], 2, s98.1, [.tmp 4, .tmp 5], 0⟩
theorem ok98 : FnM Tryz.prog 98 fun98 := SC.okM s98 rfl (fn := Tryz.f98) (by kernel_rfl) (by kernel_rfl)
noncomputable def s100 : SC (Tryz.f100.body.getD .skip) := SC.mk' (by simp only [Tryz.f100, go_sem]; rfl)
noncomputable def fun100 : Fun := ⟨[0, 1, 2, 3, 4, 8, 14, 11, 17, 12, 13, 19, 21, 28, 15, 9, 10], [8], [], 4, s100.1, [.cell 8 true 11, .tmp 9, .tmp 10], 1⟩
theorem ok100 : FnM Tryz.prog 100 fun100 := SC.okM s100 rfl (fn := Tryz.f100) (by kernel_rfl) (by kernel_rfl)
noncomputable def s102 : SC (Tryz.f102.body.getD .skip) := SC.mk' (by simp only [Tryz.f102, go_sem]; rfl)
noncomputable def fun102 : Fun := ⟨[0, 5, 11, 3, 2], [], [], 1, s102.1, [.tmp 2], 2⟩
theorem ok102 : FnM Tryz.prog 102 fun102 := SC.okM s102 rfl (fn := Tryz.f102) (by kernel_rfl) (by kernel_rfl)
noncomputable def s104 : SC (Tryz.f104.body.getD .skip) := SC.mk' (by simp only [Tryz.f104, go_sem]; rfl)
noncomputable def fun104 : Fun := ⟨[0, 1, 2, 3, 11, 8, 9, 12, 4, 5, 22, 10], [4, 5, 8, 9], [], 4, s104.1, [.cell 8 true 11, .cell 9 true 26, .tmp 10], 13⟩
theorem ok104 : FnM Tryz.prog 104 fun104 := SC.okM s104 rfl (fn := Tryz.f104) (by kernel_rfl) (by kernel_rfl)
noncomputable def s106 : SC (Tryz.f106.body.getD .skip) := SC.mk' (by simp only [Tryz.f106, go_sem]; rfl)
noncomputable def fun106 : Fun := ⟨[0, 1, 2, 3, 4, 29, 7, 27, 10, 24, 28, 30, 6, 51, 61, 67, 5], [2, 3, 4], [], 2, s106.1, [.cell 4 true 26, .tmp 5], 3⟩
theorem ok106 : FnM Tryz.prog 106 fun106 := SC.okM s106 rfl (fn := Tryz.f106) (by kernel_rfl) (by kernel_rfl)
noncomputable def s109 : SC (Tryz.f109.body.getD .skip) := SC.mk' (by simp only [Tryz.f109, go_sem]; rfl)
noncomputable def fun109 : Fun := ⟨[0, 1, 5, 9, 18, 4], [], [], 2, s109.1, [.tmp 4], 0⟩
theorem ok109 : FnM Tryz.prog 109 fun109 := SC.okM s109 rfl (fn := Tryz.f109) (by kernel_rfl) (by kernel_rfl)
noncomputable def s116 : SC (Tryz.f116.body.getD .skip) := SC.mk' (by simp only [Tryz.f116, go_sem]; rfl)
noncomputable def fun116 : Fun := ⟨[0, 1, 3, 39, 37, 5, 9, 26, 31, 38, 40, 4, 50, 54, 2], [1, 5], [], 1, s116.1, [.tmp 2], 4⟩
theorem ok116 : FnM Tryz.prog 116 fun116 := SC.okM s116 rfl (fn := Tryz.f116) (by kernel_rfl) (by kernel_rfl)
noncomputable def s117 : SC (Tryz.f117.body.getD .skip) := SC.mk' (by simp only [Tryz.f117, go_sem]; rfl)
noncomputable def fun117 : Fun := ⟨[0, 1, 2], [1, 2], [], 1, s117.1, [.cell 2 true 6], 0⟩
theorem ok117 : FnM Tryz.prog 117 fun117 := SC.okM s117 rfl (fn := Tryz.f117) (by kernel_rfl) (by kernel_rfl)
noncomputable def s127 : SC (Tryz.f127.body.getD .skip) := SC.mk' (by simp only [Tryz.f127, go_sem]; rfl)
noncomputable def fun127 : Fun := ⟨[0, 1, 4], [], [], 2, s127.1, [.tmp 4], 0⟩
theorem ok127 : FnM Tryz.prog 127 fun127 := SC.okM s127 rfl (fn := Tryz.f127) (by kernel_rfl) (by kernel_rfl)
noncomputable def s132 : SC (Tryz.f132.body.getD .skip) := SC.mk' (by simp only [Tryz.f132, go_sem]; rfl)
noncomputable def fun132 : Fun := ⟨[0, 2], [], [], 1, s132.1, [.tmp 2], 0⟩
theorem ok132 : FnM Tryz.prog 132 fun132 := SC.okM s132 rfl (fn := Tryz.f132) (by kernel_rfl) (by kernel_rfl)
noncomputable def s140 : SC (Tryz.f140.body.getD .skip) := SC.mk' (by simp only [Tryz.f140, go_sem]; rfl)
noncomputable def fun140 : Fun := ⟨[0, 3, 4, 5, 35, 2], [], [], 1, s140.1, [.tmp 2], 12⟩
theorem ok140 : FnM Tryz.prog 140 fun140 := SC.okM s140 rfl (fn := Tryz.f140) (by kernel_rfl) (by kernel_rfl)
noncomputable def s143 : SC (Tryz.f143.body.getD .skip) := SC.mk' (by simp only [Tryz.f143, go_sem]; rfl)
noncomputable def fun143 : Fun := ⟨[0, 1, 2, 3, 4, 12, 10, 13, 23, 11], [10, 12], [], 5, s143.1, [.cell 10 true 7, .tmp 11], 2⟩
theorem ok143 : FnM Tryz.prog 143 fun143 := SC.okM s143 rfl (fn := Tryz.f143) (by kernel_rfl) (by kernel_rfl)
noncomputable def s144 : SC (Tryz.f144.body.getD .skip) := SC.mk' (by simp only [Tryz.f144, go_sem]; rfl)
noncomputable def fun144 : Fun := ⟨[0, 1, 2, 13, 8, 12, 14, 21, 23, 27, 6], [], [], 3, s144.1, [.tmp 6], 0⟩
theorem ok144 : FnM Tryz.prog 144 fun144 := SC.okM s144 rfl (fn := Tryz.f144) (by kernel_rfl) (by kernel_rfl)
noncomputable def s146 : SC (Tryz.f146.body.getD .skip) := SC.mk' (by simp only [Tryz.f146, go_sem]; rfl)
noncomputable def fun146 : Fun := ⟨[0, 1, 4], [], [], 2, s146.1, [.tmp 4], 1⟩
theorem ok146 : FnM Tryz.prog 146 fun146 := SC.okM s146 rfl (fn := Tryz.f146) (by kernel_rfl) (by kernel_rfl)
noncomputable def s148 : SC (Tryz.f148.body.getD .skip) := SC.mk' (by simp only [Tryz.f148, go_sem]; rfl)
noncomputable def fun148 : Fun := ⟨[0, 1, 2, 6], [], [], 3, s148.1, [.tmp 6], 0⟩
theorem ok148 : FnM Tryz.prog 148 fun148 := SC.okM s148 rfl (fn := Tryz.f148) (by kernel_rfl) (by kernel_rfl)
noncomputable def s167 : SC (Tryz.f167.body.getD .skip) := SC.mk' (by simp only [Tryz.f167, go_sem]; rfl)
noncomputable def fun167 : Fun := ⟨[0, 5, 8, 3, 6, 7, 9, 27, 2], [5], [], 1, s167.1, [.tmp 2], 0⟩
theorem ok167 : FnM Tryz.prog 167 fun167 := SC.okM s167 rfl (fn := Tryz.f167) (by kernel_rfl) (by kernel_rfl)
noncomputable def s192 : SC (Tryz.f192.body.getD .skip) := SC.mk' (by simp only [Tryz.f192, go_sem]; rfl)
noncomputable def fun192 : Fun := ⟨[0, 1, 9, 7, 8, 10, 6, 4], [], [], 2, s192.1, [.tmp 4], 0⟩
theorem ok192 : FnM Tryz.prog 192 fun192 := SC.okM s192 rfl (fn := Tryz.f192) (by kernel_rfl) (by kernel_rfl)
noncomputable def s193 : SC (Tryz.f193.body.getD .skip) := SC.mk' (by simp only [Tryz.f193, go_sem]; rfl)
noncomputable def fun193 : Fun := ⟨[0, 4, 2], [], [], 1, s193.1, [.tmp 2], 0⟩
theorem ok193 : FnM Tryz.prog 193 fun193 := SC.okM s193 rfl (fn := Tryz.f193) (by kernel_rfl) (by kernel_rfl)
noncomputable def s196 : SC (Tryz.f196.body.getD .skip) := SC.mk' (by simp only [Tryz.f196, go_sem]; rfl)
noncomputable def fun196 : Fun := ⟨[0, 3, 4, 5, 6, 28, 44, 64, 95, 2], [5], [], 1, s196.1, [.tmp 2], 2⟩
theorem ok196 : FnM Tryz.prog 196 fun196 := SC.okM s196 rfl (fn := Tryz.f196) (by kernel_rfl) (by kernel_rfl)
noncomputable def s200 : SC (Tryz.f200.body.getD .skip) := SC.mk' (by simp only [Tryz.f200, go_sem]; rfl)
noncomputable def fun200 : Fun := ⟨[0, 3, 6, 4, 5, 44, 71, 106, 134, 156, 2], [4, 5], [], 1, s200.1, [.tmp 2], 11⟩
theorem ok200 : FnM Tryz.prog 200 fun200 := SC.okM s200 rfl (fn := Tryz.f200) (by kernel_rfl) (by kernel_rfl)
noncomputable def s202 : SC (Tryz.f202.body.getD .skip) := SC.mk' (by simp only [Tryz.f202, go_sem]; rfl)
noncomputable def fun202 : Fun := ⟨[0, 1, 2], [1], [], 1, s202.1, [.tmp 2], 0⟩
theorem ok202 : FnM Tryz.prog 202 fun202 := SC.okM s202 rfl (fn := Tryz.f202) (by kernel_rfl) (by kernel_rfl)
noncomputable def s205 : SC (Tryz.f205.body.getD .skip) := SC.mk' (by simp only [Tryz.f205, go_sem]; rfl)
noncomputable def fun205 : Fun := ⟨[0, 1, 2, 4, 5, 13, 3], [1, 2, 4], [], 1, s205.1, [.cell 2 true 26, .tmp 3], 1⟩
theorem ok205 : FnM Tryz.prog 205 fun205 := SC.okM s205 rfl (fn := Tryz.f205) (by kernel_rfl) (by kernel_rfl)
noncomputable def s242 : SC (Tryz.f242.body.getD .skip) := SC.mk' (by simp only [Tryz.f242, go_sem]; rfl)
noncomputable def fun242 : Fun := ⟨[0, 1, 5, 2, 9, 12, 4], [2], [], 2, s242.1, [.tmp 4], 8⟩
theorem ok242 : FnM Tryz.prog 242 fun242 := SC.okM s242 rfl (fn := Tryz.f242) (by kernel_rfl) (by kernel_rfl)
noncomputable def s244 : SC (Tryz.f244.body.getD .skip) := SC.mk' (by simp only [Tryz.f244, go_sem]; rfl)
noncomputable def fun244 : Fun := ⟨[0, 2], [], [], 1, s244.1, [.tmp 2], 1⟩
theorem ok244 : FnM Tryz.prog 244 fun244 := SC.okM s244 rfl (fn := Tryz.f244) (by kernel_rfl) (by kernel_rfl)
noncomputable def s247 : SC (Tryz.f247.body.getD .skip) := SC.mk' (by simp only [Tryz.f247, go_sem]; rfl)
noncomputable def fun247 : Fun := ⟨[0, 2], [], [], 1, s247.1, [.tmp 2], 1⟩
theorem ok247 : FnM Tryz.prog 247 fun247 := SC.okM s247 rfl (fn := Tryz.f247) (by kernel_rfl) (by kernel_rfl)
noncomputable def s285 : SC (Tryz.f285.body.getD .skip) := SC.mk' (by simp only [Tryz.f285, go_sem]; rfl)
noncomputable def fun285 : Fun := ⟨[0, 1, 2, 4, 14, 5], [2, 4], [], 2, s285.1, [.cell 4 true 4, .tmp 5], 0⟩
theorem ok285 : FnM Tryz.prog 285 fun285 := SC.okM s285 rfl (fn := Tryz.f285) (by kernel_rfl) (by kernel_rfl)
noncomputable def s293 : SC (Tryz.f293.body.getD .skip) := SC.mk' (by simp only [Tryz.f293, go_sem]; rfl)
noncomputable def fun293 : Fun := ⟨[0, 1, 2, 4, 6, 11, 3, 8, 9, 13, 22, 33, 44, 48, 52, 7], [3, 4, 6], [], 3, s293.1, [.cell 6 true 4, .tmp 7], 1⟩
theorem ok293 : FnM Tryz.prog 293 fun293 := SC.okM s293 rfl (fn := Tryz.f293) (by kernel_rfl) (by kernel_rfl)
noncomputable def s302 : SC (Tryz.f302.body.getD .skip) := SC.mk' (by simp only [Tryz.f302, go_sem]; rfl)
noncomputable def fun302 : Fun := ⟨[0, 1, 2, 6], [], [], 3, s302.1, [.tmp 6], 0⟩
theorem ok302 : FnM Tryz.prog 302 fun302 := SC.okM s302 rfl (fn := Tryz.f302) (by kernel_rfl) (by kernel_rfl)
noncomputable def s357 : SC (Tryz.f357.body.getD .skip) := SC.mk' (by simp only [Tryz.f357, go_sem]; rfl)
noncomputable def fun357 : Fun := ⟨[0, 4, 2], [], [], 1, s357.1, [.tmp 2], 0⟩
theorem ok357 : FnM Tryz.prog 357 fun357 := SC.okM s357 rfl (fn := Tryz.f357) (by kernel_rfl) (by kernel_rfl)
noncomputable def s364 : SC (Tryz.f364.body.getD .skip) := SC.mk' (by simp only [Tryz.f364, go_sem]; rfl)
noncomputable def fun364 : Fun := ⟨[0, 1, 5, 2], [1], [], 1, s364.1, [.tmp 2], 3⟩
theorem ok364 : FnM Tryz.prog 364 fun364 := SC.okM s364 rfl (fn := Tryz.f364) (by kernel_rfl) (by kernel_rfl)
noncomputable def s403 : SC (Tryz.f403.body.getD .skip) := SC.mk' (by simp only [Tryz.f403, go_sem]; rfl)
noncomputable def fun403 : Fun := ⟨[0, 1, 2, 3, 24, 9, 45, 6, 7, 22, 43, 11, 19, 23, 25, 37, 44, 46, 53], [3, 9, 11], [], 3, s403.1, [.tmp 6, .tmp 7], 9⟩
theorem ok403 : FnM Tryz.prog 403 fun403 := SC.okM s403 rfl (fn := Tryz.f403) (by kernel_rfl) (by kernel_rfl)
noncomputable def s406 : SC (Tryz.f406.body.getD .skip) := SC.mk' (by simp only [Tryz.f406, go_sem]; rfl)
noncomputable def fun406 : Fun := ⟨[0, 1, 15, 4, 13, 11, 14, 16, 28, 2], [1, 4], [], 1, s406.1, [.tmp 2], 2⟩
theorem ok406 : FnM Tryz.prog 406 fun406 := SC.okM s406 rfl (fn := Tryz.f406) (by kernel_rfl) (by kernel_rfl)
noncomputable def s408 : SC (Tryz.f408.body.getD .skip) := SC.mk' (by simp only [Tryz.f408, go_sem]; rfl)
noncomputable def fun408 : Fun := ⟨[0, 1, 2, 3], [2], [], 2, s408.1, [.tmp 3], 0⟩
theorem ok408 : FnM Tryz.prog 408 fun408 := SC.okM s408 rfl (fn := Tryz.f408) (by kernel_rfl) (by kernel_rfl)
noncomputable def s469 : SC (Tryz.f469.body.getD .skip) := SC.mk' (by simp only [Tryz.f469, go_sem]; rfl)
noncomputable def fun469 : Fun := ⟨[0, 1, 8, 5, 7, 9, 16, 4], [], [], 2, s469.1, [.tmp 4], 8⟩
theorem ok469 : FnM Tryz.prog 469 fun469 := SC.okM s469 rfl (fn := Tryz.f469) (by kernel_rfl) (by kernel_rfl)
end Go.M
