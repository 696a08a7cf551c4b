/-
  The codes of functions, as the machine takes them.
  No condition: definitions and lemmas.
-/
import Derived.Test.YthcgieflnpkgnaaGreatQtyC
set_option linter.all false
set_option maxRecDepth 100000
set_option maxHeartbeats 4000000
namespace Go.M
open Go Go.Proofs
open Go.Eng (SOp SOper SCode sizeP aggP zerosOf bytesP zeroVal stripCode stripOps stripOper strip stripParts kindsOf)

noncomputable def s48 : SC (Tryz.f48.body.getD .skip) := SC.mk' (by simp only [Tryz.f48, go_sem]; rfl)
noncomputable def fun48 : Fun := ⟨[0, 8, 1, 3, 4, 7, 9, 17, 2], [1], [], 1, s48.1, [.tmp 2], 0⟩
theorem ok48 : FnM Tryz.prog 48 fun48 := SC.okM s48 rfl (fn := Tryz.f48) (by kernel_rfl) (by kernel_rfl)
noncomputable def s62 : SC (Tryz.f62.body.getD .skip) := SC.mk' (by simp only [Tryz.f62, go_sem]; rfl)
noncomputable def fun62 : Fun := ⟨[0, 1, 2, 4, 3, 11, 6, 7, 32, 33, 45, 12, 10, 26, 40, 46, 56, 68, 71, 84, 8, 9], [3, 4, 6, 7, 12], [], 3, s62.1, [.cell 6 true 11, .cell 7 true 63, .tmp 8, .tmp 9], 15⟩
theorem ok62 : FnM Tryz.prog 62 fun62 := SC.okM s62 rfl (fn := Tryz.f62) (by kernel_rfl) (by kernel_rfl)
noncomputable def s73 : SC (Tryz.f73.body.getD .skip) := SC.mk' (by simp only [Tryz.f73, go_sem]; rfl)
noncomputable def fun73 : Fun := ⟨[0, 1, 6, 13, 2, 11, 9, 12, 14, 26, 4], [2, 6], [], 2, s73.1, [.tmp 4], 5⟩
theorem ok73 : FnM Tryz.prog 73 fun73 := SC.okM s73 rfl (fn := Tryz.f73) (by kernel_rfl) (by kernel_rfl)
noncomputable def s85 : SC (Tryz.f85.body.getD .skip) := SC.mk' (by simp only [Tryz.f85, go_sem]; rfl)
noncomputable def fun85 : Fun := ⟨[0, 1, 2, 6], [], [], 3, s85.1, [.tmp 6], 0⟩
theorem ok85 : FnM Tryz.prog 85 fun85 := SC.okM s85 rfl (fn := Tryz.f85) (by kernel_rfl) (by kernel_rfl)
noncomputable def s86 : SC (Tryz.f86.body.getD .skip) := SC.mk' (by simp only [Tryz.f86, go_sem]; rfl)
noncomputable def fun86 : Fun := ⟨[0, 1, 6, 22, 7, 4, 44, 18, 21, 23, 43, 45, 5], [4, 6], [], 2, s86.1, [.cell 4 true 3, .tmp 5], 0⟩
theorem ok86 : FnM Tryz.prog 86 fun86 := SC.okM s86 rfl (fn := Tryz.f86) (by kernel_rfl) (by kernel_rfl)
noncomputable def s88 : SC (Tryz.f88.body.getD .skip) := SC.mk' (by simp only [Tryz.f88, go_sem]; rfl)
noncomputable def fun88 : Fun := ⟨[0, 2, 4, 5, 12, 3], [2, 4], [], 1, s88.1, [.cell 2 true 8, .tmp 3], 1⟩
theorem ok88 : FnM Tryz.prog 88 fun88 := SC.okM s88 rfl (fn := Tryz.f88) (by kernel_rfl) (by kernel_rfl)
noncomputable def s100 : SC (Tryz.f100.body.getD .skip) := SC.mk' (by simp only [Tryz.f100, go_sem]; rfl)
noncomputable def fun100 : Fun := ⟨[0, 1, 2, 3, 4, 8, 14, 11, 17, 12, 13, 19, 21, 28, 15, 9, 10], [8], [], 4, s100.1, [.cell 8 true 11, .tmp 9, .tmp 10], 1⟩
theorem ok100 : FnM Tryz.prog 100 fun100 := SC.okM s100 rfl (fn := Tryz.f100) (by kernel_rfl) (by kernel_rfl)
noncomputable def s104 : SC (Tryz.f104.body.getD .skip) := SC.mk' (by simp only [Tryz.f104, go_sem]; rfl)
noncomputable def fun104 : Fun := ⟨[0, 1, 2, 3, 11, 8, 9, 12, 4, 5, 22, 10], [4, 5, 8, 9], [], 4, s104.1, [.cell 8 true 11, .cell 9 true 26, .tmp 10], 13⟩
theorem ok104 : FnM Tryz.prog 104 fun104 := SC.okM s104 rfl (fn := Tryz.f104) (by kernel_rfl) (by kernel_rfl)
noncomputable def s105 : SC (Tryz.f105.body.getD .skip) := SC.mk' (by simp only [Tryz.f105, go_sem]; rfl)
noncomputable def fun105 : Fun := ⟨[0, 1, 6, 2, 3, 7, 8, 10, 9, 11, 28, 52, 71, 106, 117, 4, 5], [1, 2, 3, 6, 7, 8, 9, 11], [85, 90], 1, s105.1, [.cell 2 true 63, .cell 3 true 6, .tmp 4, .tmp 5], 14⟩
theorem ok105 : FnM Tryz.prog 105 fun105 := SC.okM s105 rfl (fn := Tryz.f105) (by kernel_rfl) (by kernel_rfl)
noncomputable def s125 : SC (Tryz.f125.body.getD .skip) := SC.mk' (by simp only [Tryz.f125, go_sem]; rfl)
noncomputable def fun125 : Fun := ⟨[0, 2, 9, 3], [2], [], 1, s125.1, [.cell 2 true 3, .tmp 3], 0⟩
theorem ok125 : FnM Tryz.prog 125 fun125 := SC.okM s125 rfl (fn := Tryz.f125) (by kernel_rfl) (by kernel_rfl)
noncomputable def s127 : SC (Tryz.f127.body.getD .skip) := SC.mk' (by simp only [Tryz.f127, go_sem]; rfl)
noncomputable def fun127 : Fun := ⟨[0, 1, 4], [], [], 2, s127.1, [.tmp 4], 0⟩
theorem ok127 : FnM Tryz.prog 127 fun127 := SC.okM s127 rfl (fn := Tryz.f127) (by kernel_rfl) (by kernel_rfl)
noncomputable def s130 : SC (Tryz.f130.body.getD .skip) := SC.mk' (by simp only [Tryz.f130, go_sem]; rfl)
noncomputable def fun130 : Fun := ⟨[0, 1, 4], [], [], 2, s130.1, [.tmp 4], 3⟩
theorem ok130 : FnM Tryz.prog 130 fun130 := SC.okM s130 rfl (fn := Tryz.f130) (by kernel_rfl) (by kernel_rfl)
noncomputable def s180 : SC (Tryz.f180.body.getD .skip) := SC.mk' (by simp only [Tryz.f180, go_sem]; rfl)
noncomputable def fun180 : Fun := ⟨[0, 1, 8, 5, 7, 9, 16, 4], [], [], 2, s180.1, [.tmp 4], 2⟩
theorem ok180 : FnM Tryz.prog 180 fun180 := SC.okM s180 rfl (fn := Tryz.f180) (by kernel_rfl) (by kernel_rfl)
noncomputable def s192 : SC (Tryz.f192.body.getD .skip) := SC.mk' (by simp only [Tryz.f192, go_sem]; rfl)
noncomputable def fun192 : Fun := ⟨[0, 1, 9, 7, 8, 10, 6, 4], [], [], 2, s192.1, [.tmp 4], 0⟩
theorem ok192 : FnM Tryz.prog 192 fun192 := SC.okM s192 rfl (fn := Tryz.f192) (by kernel_rfl) (by kernel_rfl)
noncomputable def s196 : SC (Tryz.f196.body.getD .skip) := SC.mk' (by simp only [Tryz.f196, go_sem]; rfl)
noncomputable def fun196 : Fun := ⟨[0, 3, 4, 5, 6, 28, 44, 64, 95, 2], [5], [], 1, s196.1, [.tmp 2], 2⟩
theorem ok196 : FnM Tryz.prog 196 fun196 := SC.okM s196 rfl (fn := Tryz.f196) (by kernel_rfl) (by kernel_rfl)
noncomputable def s202 : SC (Tryz.f202.body.getD .skip) := SC.mk' (by simp only [Tryz.f202, go_sem]; rfl)
noncomputable def fun202 : Fun := ⟨[0, 1, 2], [1], [], 1, s202.1, [.tmp 2], 0⟩
theorem ok202 : FnM Tryz.prog 202 fun202 := SC.okM s202 rfl (fn := Tryz.f202) (by kernel_rfl) (by kernel_rfl)
noncomputable def s204 : SC (Tryz.f204.body.getD .skip) := SC.mk' (by simp only [Tryz.f204, go_sem]; rfl)
noncomputable def fun204 : Fun := ⟨[0, 1, 2, 4, 3, 6, 7, 11, 14, 24, 29, 46, 5], [2, 3, 4], [], 2, s204.1, [.cell 4 true 8, .tmp 5], 12⟩
theorem ok204 : FnM Tryz.prog 204 fun204 := SC.okM s204 rfl (fn := Tryz.f204) (by kernel_rfl) (by kernel_rfl)
noncomputable def s205 : SC (Tryz.f205.body.getD .skip) := SC.mk' (by simp only [Tryz.f205, go_sem]; rfl)
noncomputable def fun205 : Fun := ⟨[0, 1, 2, 4, 5, 13, 3], [1, 2, 4], [], 1, s205.1, [.cell 2 true 26, .tmp 3], 1⟩
theorem ok205 : FnM Tryz.prog 205 fun205 := SC.okM s205 rfl (fn := Tryz.f205) (by kernel_rfl) (by kernel_rfl)
noncomputable def s282 : SC (Tryz.f282.body.getD .skip) := SC.mk' (by simp only [Tryz.f282, go_sem]; rfl)
noncomputable def fun282 : Fun := ⟨[0, 1, 2, 4, 6, 7, 10, 3, 20, 11, 30, 38, 8], [3, 4, 6, 7], [], 3, s282.1, [.cell 6 true 11, .cell 7 true 5, .tmp 8], 4⟩
theorem ok282 : FnM Tryz.prog 282 fun282 := SC.okM s282 rfl (fn := Tryz.f282) (by kernel_rfl) (by kernel_rfl)
noncomputable def s283 : SC (Tryz.f283.body.getD .skip) := SC.mk' (by simp only [Tryz.f283, go_sem]; rfl)
noncomputable def fun283 : Fun := ⟨[0, 1, 2], [], [], 1, s283.1, [.tmp 2], 8⟩
theorem ok283 : FnM Tryz.prog 283 fun283 := SC.okM s283 rfl (fn := Tryz.f283) (by kernel_rfl) (by kernel_rfl)
noncomputable def s286 : SC (Tryz.f286.body.getD .skip) := SC.mk' (by simp only [Tryz.f286, go_sem]; rfl)
noncomputable def fun286 : Fun := ⟨[0, 2], [], [], 1, s286.1, [.tmp 2], 0⟩
theorem ok286 : FnM Tryz.prog 286 fun286 := SC.okM s286 rfl (fn := Tryz.f286) (by kernel_rfl) (by kernel_rfl)
noncomputable def s287 : SC (Tryz.f287.body.getD .skip) := SC.mk' (by simp only [Tryz.f287, go_sem]; rfl)
noncomputable def fun287 : Fun := ⟨[0, 1, 2, 4, 10, 16, 3], [1, 2], [], 1, s287.1, [.cell 2 true 4, .tmp 3], 1⟩
theorem ok287 : FnM Tryz.prog 287 fun287 := SC.okM s287 rfl (fn := Tryz.f287) (by kernel_rfl) (by kernel_rfl)
noncomputable def s291 : SC (Tryz.f291.body.getD .skip) := SC.mk' (by simp only [Tryz.f291, go_sem]; rfl)
noncomputable def fun291 : Fun := ⟨[0, 1, 2, 4, 9, 5], [2, 4], [], 2, s291.1, [.cell 4 true 8, .tmp 5], 1⟩
theorem ok291 : FnM Tryz.prog 291 fun291 := SC.okM s291 rfl (fn := Tryz.f291) (by kernel_rfl) (by kernel_rfl)
noncomputable def s298 : SC (Tryz.f298.body.getD .skip) := SC.mk' (by simp only [Tryz.f298, go_sem]; rfl)
noncomputable def fun298 : Fun := ⟨[0, 1, 2, 3, 8, 11, 4, 5, 10, 12, 18, 27, 43, 9], [4, 5, 8, 11], [], 4, s298.1, [.cell 8 true 4, .tmp 9], 10⟩
theorem ok298 : FnM Tryz.prog 298 fun298 := SC.okM s298 rfl (fn := Tryz.f298) (by kernel_rfl) (by kernel_rfl)
noncomputable def s299 : SC (Tryz.f299.body.getD .skip) := SC.mk' (by simp only [Tryz.f299, go_sem]; rfl)
noncomputable def fun299 : Fun := ⟨[0, 1, 3, 8, 4, 61, 5, 6, 59, 9, 40, 45, 56, 60, 62, 68, 81, 2], [1, 8], [], 1, s299.1, [.tmp 2], 2⟩
theorem ok299 : FnM Tryz.prog 299 fun299 := SC.okM s299 rfl (fn := Tryz.f299) (by kernel_rfl) (by kernel_rfl)
noncomputable def s349 : SC (Tryz.f349.body.getD .skip) := SC.mk' (by simp only [Tryz.f349, go_sem]; rfl)
noncomputable def fun349 : Fun := ⟨[0, 1, 4], [], [], 2, s349.1, [.tmp 4], 1⟩
theorem ok349 : FnM Tryz.prog 349 fun349 := SC.okM s349 rfl (fn := Tryz.f349) (by kernel_rfl) (by kernel_rfl)
noncomputable def s351 : SC (Tryz.f351.body.getD .skip) := SC.mk' (by simp only [Tryz.f351, go_sem]; rfl)
noncomputable def fun351 : Fun := ⟨[0, 1, 2, 4], [2], [], 2, s351.1, [.tmp 4], 0⟩
theorem ok351 : FnM Tryz.prog 351 fun351 := SC.okM s351 rfl (fn := Tryz.f351) (by kernel_rfl) (by kernel_rfl)
noncomputable def s354 : SC (Tryz.f354.body.getD .skip) := SC.mk' (by simp only [Tryz.f354, go_sem]; rfl)
noncomputable def fun354 : Fun := ⟨[0, 1, 2], [1, 2], [], 1, s354.1, [.cell 2 true 3], 1⟩
theorem ok354 : FnM Tryz.prog 354 fun354 := SC.okM s354 rfl (fn := Tryz.f354) (by kernel_rfl) (by kernel_rfl)
noncomputable def s358 : SC (Tryz.f358.body.getD .skip) := SC.mk' (by simp only [Tryz.f358, go_sem]; rfl)
noncomputable def fun358 : Fun := ⟨[0, 4, 2], [], [], 1, s358.1, [.tmp 2], 0⟩
theorem ok358 : FnM Tryz.prog 358 fun358 := SC.okM s358 rfl (fn := Tryz.f358) (by kernel_rfl) (by kernel_rfl)
noncomputable def s390 : SC (Tryz.f390.body.getD .skip) := SC.mk' (by simp only [Tryz.f390, go_sem]; rfl)
noncomputable def fun390 : Fun := ⟨[0, 1, 2, 4, 3, 6, 7, 9, 20, 37, 54, 58, 8], [3, 4, 6, 7], [], 3, s390.1, [.cell 6 true 11, .cell 7 true 5, .tmp 8], 3⟩
theorem ok390 : FnM Tryz.prog 390 fun390 := SC.okM s390 rfl (fn := Tryz.f390) (by kernel_rfl) (by kernel_rfl)
noncomputable def s391 : SC (Tryz.f391.body.getD .skip) := SC.mk' (by simp only [Tryz.f391, go_sem]; rfl)
noncomputable def fun391 : Fun := ⟨[0, 1, 5, 6, 7, 12, 19, 29, 4], [], [], 2, s391.1, [.tmp 4], 7⟩
theorem ok391 : FnM Tryz.prog 391 fun391 := SC.okM s391 rfl (fn := Tryz.f391) (by kernel_rfl) (by kernel_rfl)
noncomputable def s393 : SC (Tryz.f393.body.getD .skip) := SC.mk' (by simp only [Tryz.f393, go_sem]; rfl)
noncomputable def fun393 : Fun := ⟨[0, 2], [], [], 1, s393.1, [.tmp 2], 0⟩
theorem ok393 : FnM Tryz.prog 393 fun393 := SC.okM s393 rfl (fn := Tryz.f393) (by kernel_rfl) (by kernel_rfl)
noncomputable def s394 : SC (Tryz.f394.body.getD .skip) := SC.mk' (by simp only [Tryz.f394, go_sem]; rfl)
noncomputable def fun394 : Fun := ⟨[0, 1, 2, 3, 7, 17, 6], [3], [], 3, s394.1, [.tmp 6], 2⟩
theorem ok394 : FnM Tryz.prog 394 fun394 := SC.okM s394 rfl (fn := Tryz.f394) (by kernel_rfl) (by kernel_rfl)
noncomputable def s396 : SC (Tryz.f396.body.getD .skip) := SC.mk' (by simp only [Tryz.f396, go_sem]; rfl)
noncomputable def fun396 : Fun := ⟨[0, 2], [], [], 1, s396.1, [.tmp 2], 1⟩
theorem ok396 : FnM Tryz.prog 396 fun396 := SC.okM s396 rfl (fn := Tryz.f396) (by kernel_rfl) (by kernel_rfl)
noncomputable def s405 : SC (Tryz.f405.body.getD .skip) := SC.mk' (by simp only [Tryz.f405, go_sem]; rfl)
noncomputable def fun405 : Fun := ⟨[0, 13, 5, 11, 4, 8, 10, 12, 14, 3, 23, 28, 36, 2], [4], [], 1, s405.1, [.tmp 2], 4⟩
theorem ok405 : FnM Tryz.prog 405 fun405 := SC.okM s405 rfl (fn := Tryz.f405) (by kernel_rfl) (by kernel_rfl)
noncomputable def s433 : SC (Tryz.f433.body.getD .skip) := SC.mk' (by simp only [Tryz.f433, go_sem]; rfl)
noncomputable def fun433 : Fun := ⟨[0, 1, 2, 3, 4], [2], [], 2, s433.1, [.tmp 4], 9⟩
theorem ok433 : FnM Tryz.prog 433 fun433 := SC.okM s433 rfl (fn := Tryz.f433) (by kernel_rfl) (by kernel_rfl)
end Go.M
