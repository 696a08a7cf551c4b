/-
  The codes of functions, as the machine takes them.
  No condition: definitions and lemmas.
-/
import Derived.Test.YtgnhijkjlebcmaaGreatQtyO
set_option linter.all false
set_option maxRecDepth 100000
set_option maxHeartbeats 4000000
namespace Go.M
open Go Go.Proofs
open Go.Eng (SOp SOper SCode sizeP aggP zerosOf bytesP zeroVal stripCode stripOps stripOper strip stripParts kindsOf kinds2)
noncomputable def s13 : SC (Tryz.f13.body.getD .skip) := SC.mk' (by simp only [Tryz.f13, go_sem]; rfl)
noncomputable def fun13 : Fun := ⟨[0, 1, 3, 6, 9, 7, 8, 5, 10, 11, 4, 12, 31, 36, 59, 64, 69, 88, 93, 105, 108, 139, 142, 152, 161, 2], [1, 6], [], 1, s13.1, [.tmp 2], 65⟩
theorem ok13 : FnM Tryz.prog 13 fun13 := SC.okM s13 rfl (fn := Tryz.f13) (by kernel_rfl) (by kernel_rfl)
noncomputable def s28 : SC (Tryz.f28.body.getD .skip) := SC.mk' (by simp only [Tryz.f28, go_sem]; rfl)
noncomputable def fun28 : Fun := ⟨[0, 1, 2, 6], [6], [], 3, s28.1, [.cell 6 true 8], 0⟩
theorem ok28 : FnM Tryz.prog 28 fun28 := SC.okM s28 rfl (fn := Tryz.f28) (by kernel_rfl) (by kernel_rfl)
noncomputable def s32 : SC (Tryz.f32.body.getD .skip) := SC.mk' (by simp only [Tryz.f32, go_sem]; rfl)
noncomputable def fun32 : Fun := ⟨[0, 1, 6, 7, 4, 8, 2, 57, 78, 90, 3], [1, 2, 4, 6, 8], [], 1, s32.1, [.cell 2 true 11, .tmp 3], 130⟩
theorem ok32 : FnM Tryz.prog 32 fun32 := SC.okM s32 rfl (fn := Tryz.f32) (by kernel_rfl) (by kernel_rfl)
noncomputable def s34 : SC (Tryz.f34.body.getD .skip) := SC.mk' (by simp only [Tryz.f34, go_sem]; rfl)
noncomputable def fun34 : Fun := ⟨[0, 4, 1, 6, 7, 8, 3, 5, 19, 2], [1, 8], [], 1, s34.1, [.tmp 2], 65⟩
theorem ok34 : FnM Tryz.prog 34 fun34 := SC.okM s34 rfl (fn := Tryz.f34) (by kernel_rfl) (by kernel_rfl)
noncomputable def s35 : SC (Tryz.f35.body.getD .skip) := SC.mk' (by simp only [Tryz.f35, go_sem]; rfl)
noncomputable def fun35 : Fun := ⟨[0, 1, 2, 8, 6, 11, 4, 7, 10, 9, 30, 61, 5], [2, 4, 6, 7, 8], [66], 2, s35.1, [.cell 4 true 23, .tmp 5], 1040⟩
theorem ok35 : FnM Tryz.prog 35 fun35 := SC.okM s35 rfl (fn := Tryz.f35) (by kernel_rfl) (by kernel_rfl)
noncomputable def s63 : SC (Tryz.f63.body.getD .skip) := SC.mk' (by simp only [Tryz.f63, go_sem]; rfl)
noncomputable def fun63 : Fun := ⟨[0, 2, 4, 5, 12, 3], [2, 4], [], 1, s63.1, [.cell 2 true 8, .tmp 3], 65⟩
theorem ok63 : FnM Tryz.prog 63 fun63 := SC.okM s63 rfl (fn := Tryz.f63) (by kernel_rfl) (by kernel_rfl)
noncomputable def s90 : SC (Tryz.f90.body.getD .skip) := SC.mk' (by simp only [Tryz.f90, go_sem]; rfl)
noncomputable def fun90 : Fun := ⟨[0, 1, 2, 9, 8, 27, 33, 6, 7], [], [], 3, s90.1, [.tmp 6, .tmp 7], 0⟩
theorem ok90 : FnM Tryz.prog 90 fun90 := SC.okM s90 rfl (fn := Tryz.f90) (by kernel_rfl) (by kernel_rfl)
noncomputable def s129 : SC (Tryz.f129.body.getD .skip) := SC.mk' (by simp only [Tryz.f129, go_sem]; rfl)
noncomputable def fun129 : Fun := ⟨[0, 4, 2, 12, 17, 47, 3], [2], [], 1, s129.1, [.cell 2 true 5, .tmp 3], 0⟩
theorem ok129 : FnM Tryz.prog 129 fun129 := SC.okM s129 rfl (fn := Tryz.f129) (by kernel_rfl) (by kernel_rfl)
noncomputable def s148 : SC (Tryz.f148.body.getD .skip) := SC.mk' (by simp only [Tryz.f148, go_sem]; rfl)
noncomputable def fun148 : Fun := ⟨[0, 1, 3, 39, 37, 5, 9, 26, 31, 38, 40, 4, 50, 54, 2], [1, 5], [], 1, s148.1, [.tmp 2], 260⟩
theorem ok148 : FnM Tryz.prog 148 fun148 := SC.okM s148 rfl (fn := Tryz.f148) (by kernel_rfl) (by kernel_rfl)
noncomputable def s158 : SC (Tryz.f158.body.getD .skip) := SC.mk' (by simp only [Tryz.f158, go_sem]; rfl)
noncomputable def fun158 : Fun := ⟨[0, 1, 2, 6, 7, 11, 15, 4, 5], [2], [], 2, s158.1, [.tmp 4, .tmp 5], 0⟩
theorem ok158 : FnM Tryz.prog 158 fun158 := SC.okM s158 rfl (fn := Tryz.f158) (by kernel_rfl) (by kernel_rfl)
noncomputable def s167 : SC (Tryz.f167.body.getD .skip) := SC.mk' (by simp only [Tryz.f167, go_sem]; rfl)
noncomputable def fun167 : Fun := ⟨[0, 1, 2, 4, 9, 5], [2, 4], [], 2, s167.1, [.cell 4 true 4, .tmp 5], 65⟩
theorem ok167 : FnM Tryz.prog 167 fun167 := SC.okM s167 rfl (fn := Tryz.f167) (by kernel_rfl) (by kernel_rfl)
noncomputable def s205 : SC (Tryz.f205.body.getD .skip) := SC.mk' (by simp only [Tryz.f205, go_sem]; rfl)
noncomputable def fun205 : Fun := ⟨[0, 1, 4, 3, 7, 5, 6, 8, 12, 17, 29, 31, 36, 45, 66, 74, 79, 106, 2], [1, 4], [], 1, s205.1, [.tmp 2], 130⟩
theorem ok205 : FnM Tryz.prog 205 fun205 := SC.okM s205 rfl (fn := Tryz.f205) (by kernel_rfl) (by kernel_rfl)
noncomputable def s215 : SC (Tryz.f215.body.getD .skip) := SC.mk' (by simp only [Tryz.f215, go_sem]; rfl)
noncomputable def fun215 : Fun := ⟨[0, 1, 4, 3, 8, 2], [1], [], 1, s215.1, [.tmp 2], 0⟩
theorem ok215 : FnM Tryz.prog 215 fun215 := SC.okM s215 rfl (fn := Tryz.f215) (by kernel_rfl) (by kernel_rfl)
noncomputable def s227 : SC (Tryz.f227.body.getD .skip) := SC.mk' (by simp only [Tryz.f227, go_sem]; rfl)
noncomputable def fun227 : Fun := ⟨[0, 1, 2, 6], [], [], 3, s227.1, [.tmp 6], 0⟩
theorem ok227 : FnM Tryz.prog 227 fun227 := SC.okM s227 rfl (fn := Tryz.f227) (by kernel_rfl) (by kernel_rfl)
noncomputable def s278 : SC (Tryz.f278.body.getD .skip) := SC.mk' (by simp only [Tryz.f278, go_sem]; rfl)
noncomputable def fun278 : Fun := ⟨[0, 1, 2, 4, 6, 11, 3, 8, 9, 13, 22, 33, 44, 48, 52, 7], [3, 4, 6], [], 3, s278.1, [.cell 6 true 4, .tmp 7], 65⟩
theorem ok278 : FnM Tryz.prog 278 fun278 := SC.okM s278 rfl (fn := Tryz.f278) (by kernel_rfl) (by kernel_rfl)
noncomputable def s293 : SC (Tryz.f293.body.getD .skip) := SC.mk' (by simp only [Tryz.f293, go_sem]; rfl)
noncomputable def fun293 : Fun := ⟨[0, 1, 3, 8, 4, 61, 5, 6, 59, 9, 40, 45, 56, 60, 62, 68, 81, 2], [1, 8], [], 1, s293.1, [.tmp 2], 130⟩
theorem ok293 : FnM Tryz.prog 293 fun293 := SC.okM s293 rfl (fn := Tryz.f293) (by kernel_rfl) (by kernel_rfl)
noncomputable def s311 : SC (Tryz.f311.body.getD .skip) := SC.mk' (by simp only [Tryz.f311, go_sem]; rfl)
noncomputable def fun311 : Fun := ⟨[0, 1, 2], [1], [], 1, s311.1, [.tmp 2], 260⟩
theorem ok311 : FnM Tryz.prog 311 fun311 := SC.okM s311 rfl (fn := Tryz.f311) (by kernel_rfl) (by kernel_rfl)
noncomputable def s331 : SC (Tryz.f331.body.getD .skip) := SC.mk' (by simp only [Tryz.f331, go_sem]; rfl)
noncomputable def fun331 : Fun := ⟨[0, 1, 5, 2, 9, 12, 4], [2], [], 2, s331.1, [.tmp 4], 520⟩
theorem ok331 : FnM Tryz.prog 331 fun331 := SC.okM s331 rfl (fn := Tryz.f331) (by kernel_rfl) (by kernel_rfl)
noncomputable def s356 : SC (Tryz.f356.body.getD .skip) := SC.mk' (by simp only [Tryz.f356, go_sem]; rfl)
noncomputable def fun356 : Fun := ⟨[0, 1, 2, 3, 7, 17, 6], [3], [], 3, s356.1, [.tmp 6], 130⟩
theorem ok356 : FnM Tryz.prog 356 fun356 := SC.okM s356 rfl (fn := Tryz.f356) (by kernel_rfl) (by kernel_rfl)
noncomputable def s362 : SC (Tryz.f362.body.getD .skip) := SC.mk' (by simp only [Tryz.f362, go_sem]; rfl)
noncomputable def fun362 : Fun := ⟨[0, 4, 2], [], [], 1, s362.1, [.tmp 2], 0⟩
theorem ok362 : FnM Tryz.prog 362 fun362 := SC.okM s362 rfl (fn := Tryz.f362) (by kernel_rfl) (by kernel_rfl)
noncomputable def s371 : SC (Tryz.f371.body.getD .skip) := SC.mk' (by simp only [Tryz.f371, go_sem]; rfl)
noncomputable def fun371 : Fun := ⟨[0, 1, 8, 5, 7, 9, 16, 4], [], [], 2, s371.1, [.tmp 4], 776⟩
theorem ok371 : FnM Tryz.prog 371 fun371 := SC.okM s371 rfl (fn := Tryz.f371) (by kernel_rfl) (by kernel_rfl)
noncomputable def s381 : SC (Tryz.f381.body.getD .skip) := SC.mk' (by simp only [Tryz.f381, go_sem]; rfl)
noncomputable def fun381 : Fun := ⟨[0, 1, 2, 6], [], [], 3, s381.1, [.tmp 6], 0⟩
theorem ok381 : FnM Tryz.prog 381 fun381 := SC.okM s381 rfl (fn := Tryz.f381) (by kernel_rfl) (by kernel_rfl)
noncomputable def s383 : SC (Tryz.f383.body.getD .skip) := SC.mk' (by simp only [Tryz.f383, go_sem]; rfl)
noncomputable def fun383 : Fun := ⟨[0, 1, 5, 2], [1], [], 1, s383.1, [.tmp 2], 195⟩
theorem ok383 : FnM Tryz.prog 383 fun383 := SC.okM s383 rfl (fn := Tryz.f383) (by kernel_rfl) (by kernel_rfl)
noncomputable def s392 : SC (Tryz.f392.body.getD .skip) := SC.mk' (by simp only [Tryz.f392, go_sem]; rfl)
noncomputable def fun392 : Fun := ⟨[0, 1, 2, 4], [2], [], 2, s392.1, [.tmp 4], 0⟩
theorem ok392 : FnM Tryz.prog 392 fun392 := SC.okM s392 rfl (fn := Tryz.f392) (by kernel_rfl) (by kernel_rfl)
noncomputable def s400 : SC (Tryz.f400.body.getD .skip) := SC.mk' (by simp only [Tryz.f400, go_sem]; rfl)
noncomputable def fun400 : Fun := ⟨[0, 1, 2, 3, 5, 9, 6], [], [], 3, s400.1, [.tmp 6], 650⟩
theorem ok400 : FnM Tryz.prog 400 fun400 := SC.okM s400 rfl (fn := Tryz.f400) (by kernel_rfl) (by kernel_rfl)
noncomputable def s408 : SC (Tryz.f408.body.getD .skip) := SC.mk' (by simp only [Tryz.f408, go_sem]; rfl)
noncomputable def fun408 : Fun := ⟨[0, 1, 2, 3, 6, 9, 10, 23, 26, 7, 8], [3, 6], [], 3, s408.1, [.cell 6 true 11, .tmp 7, .tmp 8], 130⟩
theorem ok408 : FnM Tryz.prog 408 fun408 := SC.okM s408 rfl (fn := Tryz.f408) (by kernel_rfl) (by kernel_rfl)
noncomputable def s423 : SC (Tryz.f423.body.getD .skip) := SC.mk' (by simp only [Tryz.f423, go_sem]; rfl)
noncomputable def fun423 : Fun := ⟨[0, 1, 2, 4], [2], [], 2, s423.1, [.tmp 4], 130⟩
theorem ok423 : FnM Tryz.prog 423 fun423 := SC.okM s423 rfl (fn := Tryz.f423) (by kernel_rfl) (by kernel_rfl)
noncomputable def s431 : SC (Tryz.f431.body.getD .skip) := SC.mk' (by simp only [Tryz.f431, go_sem]; rfl)
noncomputable def fun431 : Fun := ⟨[0, 1, 2, 4, 5, 7, 8, 9, 13, 21, 6], [2, 4, 5, 9], [], 2, s431.1, [.cell 4 true 3, .cell 5 true 7, .tmp 6], 910⟩
theorem ok431 : FnM Tryz.prog 431 fun431 := SC.okM s431 rfl (fn := Tryz.f431) (by kernel_rfl) (by kernel_rfl)
noncomputable def s433 : SC (Tryz.f433.body.getD .skip) := SC.mk' (by simp only [Tryz.f433, go_sem]; rfl)
noncomputable def fun433 : Fun := ⟨[0, 1, 2, 6, 16, 4, 5], [2], [], 2, s433.1, [.tmp 4, .tmp 5], 0⟩
theorem ok433 : FnM Tryz.prog 433 fun433 := SC.okM s433 rfl (fn := Tryz.f433) (by kernel_rfl) (by kernel_rfl)
noncomputable def s453 : SC (Tryz.f453.body.getD .skip) := SC.mk' (by simp only [Tryz.f453, go_sem]; rfl)
noncomputable def fun453 : Fun := ⟨[0, 1, 8, 5, 3, 7, 9, 16, 4], [3], [], 2, s453.1, [.tmp 4], 0⟩
theorem ok453 : FnM Tryz.prog 453 fun453 := SC.okM s453 rfl (fn := Tryz.f453) (by kernel_rfl) (by kernel_rfl)
noncomputable def s469 : SC (Tryz.f469.body.getD .skip) := SC.mk' (by simp only [Tryz.f469, go_sem]; rfl)
noncomputable def fun469 : Fun := ⟨[0, 2, 4, 8, 14], [], [], 1, s469.1, [.tmp 2], 0⟩
theorem ok469 : FnM Tryz.prog 469 fun469 := SC.okM s469 rfl (fn := Tryz.f469) (by kernel_rfl) (by kernel_rfl)
end Go.M
