/-
  The codes of functions, as the machine takes them.
  No condition: definitions and lemmas.
-/
import Derived.Test.YtgnhijkjlebcmaaGreatQtyM
set_option linter.all false
set_option maxRecDepth 100000
set_option maxHeartbeats 4000000
namespace Go.M
open Go Go.Proofs
open Go.Eng (SOp SOper SCode sizeP aggP zerosOf bytesP zeroVal stripCode stripOps stripOper strip stripParts kindsOf kinds2)
noncomputable def s9 : SC (Tryz.f9.body.getD .skip) := SC.mk' (by simp only [Tryz.f9, go_sem]; rfl)
noncomputable def fun9 : Fun := ⟨[0, 1, 2, 6], [], [], 3, s9.1, [.tmp 6], 0⟩
theorem ok9 : FnM Tryz.prog 9 fun9 := SC.okM s9 rfl (fn := Tryz.f9) (by kernel_rfl) (by kernel_rfl)
noncomputable def s28 : SC (Tryz.f28.body.getD .skip) := SC.mk' (by simp only [Tryz.f28, go_sem]; rfl)
noncomputable def fun28 : Fun := ⟨[0, 1, 2, 6], [6], [], 3, s28.1, [.cell 6 true 8], 0⟩
theorem ok28 : FnM Tryz.prog 28 fun28 := SC.okM s28 rfl (fn := Tryz.f28) (by kernel_rfl) (by kernel_rfl)
noncomputable def s42 : SC (Tryz.f42.body.getD .skip) := SC.mk' (by simp only [Tryz.f42, go_sem]; rfl)
noncomputable def fun42 : Fun := ⟨[0, 3, 4, 6, 2], [], [], 1, s42.1, [.tmp 2], 0⟩
theorem ok42 : FnM Tryz.prog 42 fun42 := SC.okM s42 rfl (fn := Tryz.f42) (by kernel_rfl) (by kernel_rfl)
noncomputable def s48 : SC (Tryz.f48.body.getD .skip) := SC.mk' (by simp only [Tryz.f48, go_sem]; rfl)
noncomputable def fun48 : Fun := ⟨[0, 1, 2, 4], [2], [], 2, s48.1, [.tmp 4], 520⟩
theorem ok48 : FnM Tryz.prog 48 fun48 := SC.okM s48 rfl (fn := Tryz.f48) (by kernel_rfl) (by kernel_rfl)
noncomputable def s88 : SC (Tryz.f88.body.getD .skip) := SC.mk' (by simp only [Tryz.f88, go_sem]; rfl)
noncomputable def fun88 : Fun := ⟨[0, 1, 2, 4, 7, 8, 10, 5, 6, 9, 22, 41, 3], [1, 2, 6, 8, 9], [55, 8388618], 1, s88.1, [.cell 2 true 6, .tmp 3], 1235⟩
theorem ok88 : FnM Tryz.prog 88 fun88 := SC.okM s88 rfl (fn := Tryz.f88) (by kernel_rfl) (by kernel_rfl)
noncomputable def s130 : SC (Tryz.f130.body.getD .skip) := SC.mk' (by simp only [Tryz.f130, go_sem]; rfl)
noncomputable def fun130 : Fun := ⟨[0, 1, 2, 3, 5, 4, 8, 9, 20, 12, 14, 17, 11, 13, 15, 16, 18, 21, 40, 46, 52, 61, 69, 87, 93, 102, 110, 119, 138, 10], [4, 5, 8, 9, 11, 12, 14, 16, 17], [], 4, s130.1, [.cell 8 true 11, .cell 9 true 26, .tmp 10], 715⟩
theorem ok130 : FnM Tryz.prog 130 fun130 := SC.okM s130 rfl (fn := Tryz.f130) (by kernel_rfl) (by kernel_rfl)
noncomputable def s133 : SC (Tryz.f133.body.getD .skip) := SC.mk' (by simp only [Tryz.f133, go_sem]; rfl)
noncomputable def fun133 : Fun := ⟨[0, 1, 2, 3, 4, 5, 11, 6, 15, 28, 34, 10], [5, 6], [], 5, s133.1, [.tmp 10], 585⟩
theorem ok133 : FnM Tryz.prog 133 fun133 := SC.okM s133 rfl (fn := Tryz.f133) (by kernel_rfl) (by kernel_rfl)
noncomputable def s136 : SC (Tryz.f136.body.getD .skip) := SC.mk' (by simp only [Tryz.f136, go_sem]; rfl)
noncomputable def fun136 : Fun := ⟨[0, 1, 2, 4], [2], [], 2, s136.1, [.tmp 4], 0⟩
theorem ok136 : FnM Tryz.prog 136 fun136 := SC.okM s136 rfl (fn := Tryz.f136) (by kernel_rfl) (by kernel_rfl)
noncomputable def s161 : SC (Tryz.f161.body.getD .skip) := SC.mk' (by simp only [Tryz.f161, go_sem]; rfl)
noncomputable def fun161 : Fun := ⟨[0, 5, 11, 3, 2], [], [], 1, s161.1, [.tmp 2], 65⟩
theorem ok161 : FnM Tryz.prog 161 fun161 := SC.okM s161 rfl (fn := Tryz.f161) (by kernel_rfl) (by kernel_rfl)
noncomputable def s164 : SC (Tryz.f164.body.getD .skip) := SC.mk' (by simp only [Tryz.f164, go_sem]; rfl)
noncomputable def fun164 : Fun := ⟨[0, 1, 2, 4, 6, 16, 5], [2, 4], [], 2, s164.1, [.cell 4 true 3, .tmp 5], 130⟩
theorem ok164 : FnM Tryz.prog 164 fun164 := SC.okM s164 rfl (fn := Tryz.f164) (by kernel_rfl) (by kernel_rfl)
noncomputable def s181 : SC (Tryz.f181.body.getD .skip) := SC.mk' (by simp only [Tryz.f181, go_sem]; rfl)
noncomputable def fun181 : Fun := ⟨[0, 3, 8, 7, 4, 5, 22, 38, 6, 78, 92, 112, 145, 2], [5, 7], [], 1, s181.1, [.tmp 2], 585⟩
theorem ok181 : FnM Tryz.prog 181 fun181 := SC.okM s181 rfl (fn := Tryz.f181) (by kernel_rfl) (by kernel_rfl)
noncomputable def s185 : SC (Tryz.f185.body.getD .skip) := SC.mk' (by simp only [Tryz.f185, go_sem]; rfl)
noncomputable def fun185 : Fun := ⟨[0, 4, 3, 5, 12, 33, 52, 6, 71, 82, 2], [3, 5], [], 1, s185.1, [.tmp 2], 390⟩
theorem ok185 : FnM Tryz.prog 185 fun185 := SC.okM s185 rfl (fn := Tryz.f185) (by kernel_rfl) (by kernel_rfl)
noncomputable def s192 : SC (Tryz.f192.body.getD .skip) := SC.mk' (by simp only [Tryz.f192, go_sem]; rfl)
noncomputable def fun192 : Fun := ⟨[0, 2], [], [], 1, s192.1, [.tmp 2], 0⟩
theorem ok192 : FnM Tryz.prog 192 fun192 := SC.okM s192 rfl (fn := Tryz.f192) (by kernel_rfl) (by kernel_rfl)
noncomputable def s199 : SC (Tryz.f199.body.getD .skip) := SC.mk' (by simp only [Tryz.f199, go_sem]; rfl)
noncomputable def fun199 : Fun := ⟨[0, 1, 2, 4, 23, 6, 8, 3, 10, 25, 30, 37, 42, 47, 7], [3, 4, 6], [], 3, s199.1, [.cell 6 true 4, .tmp 7], 65⟩
theorem ok199 : FnM Tryz.prog 199 fun199 := SC.okM s199 rfl (fn := Tryz.f199) (by kernel_rfl) (by kernel_rfl)
noncomputable def s202 : SC (Tryz.f202.body.getD .skip) := SC.mk' (by simp only [Tryz.f202, go_sem]; rfl)
noncomputable def fun202 : Fun := ⟨[0, 1, 2, 4, 3, 9, 12, 6, 7, 10, 11, 22, 45, 63, 76, 8], [3, 4, 6, 7, 10, 11], [], 3, s202.1, [.cell 6 true 11, .cell 7 true 26, .tmp 8], 650⟩
theorem ok202 : FnM Tryz.prog 202 fun202 := SC.okM s202 rfl (fn := Tryz.f202) (by kernel_rfl) (by kernel_rfl)
noncomputable def s207 : SC (Tryz.f207.body.getD .skip) := SC.mk' (by simp only [Tryz.f207, go_sem]; rfl)
noncomputable def fun207 : Fun := ⟨[0, 1, 5, 9, 18, 4], [], [], 2, s207.1, [.tmp 4], 0⟩
theorem ok207 : FnM Tryz.prog 207 fun207 := SC.okM s207 rfl (fn := Tryz.f207) (by kernel_rfl) (by kernel_rfl)
noncomputable def s212 : SC (Tryz.f212.body.getD .skip) := SC.mk' (by simp only [Tryz.f212, go_sem]; rfl)
noncomputable def fun212 : Fun := ⟨[0, 1, 6, 7, 11, 17, 4, 5], [], [], 2, s212.1, [.tmp 4, .tmp 5], 195⟩
theorem ok212 : FnM Tryz.prog 212 fun212 := SC.okM s212 rfl (fn := Tryz.f212) (by kernel_rfl) (by kernel_rfl)
noncomputable def s235 : SC (Tryz.f235.body.getD .skip) := SC.mk' (by simp only [Tryz.f235, go_sem]; rfl)
noncomputable def fun235 : Fun := ⟨[0, 1, 5, 2], [1], [], 1, s235.1, [.tmp 2], 520⟩
theorem ok235 : FnM Tryz.prog 235 fun235 := SC.okM s235 rfl (fn := Tryz.f235) (by kernel_rfl) (by kernel_rfl)
noncomputable def s238 : SC (Tryz.f238.body.getD .skip) := SC.mk' (by simp only [Tryz.f238, go_sem]; rfl)
noncomputable def fun238 : Fun := ⟨[0, 1, 2, 3, 4, 12, 10, 13, 23, 11], [10, 12], [], 5, s238.1, [.cell 10 true 7, .tmp 11], 130⟩
theorem ok238 : FnM Tryz.prog 238 fun238 := SC.okM s238 rfl (fn := Tryz.f238) (by kernel_rfl) (by kernel_rfl)
noncomputable def s240 : SC (Tryz.f240.body.getD .skip) := SC.mk' (by simp only [Tryz.f240, go_sem]; rfl)
noncomputable def fun240 : Fun := ⟨[0, 1, 2, 4, 3, 6, 7, 11, 17, 20, 34, 43, 5], [2, 3, 4], [], 2, s240.1, [.cell 4 true 8, .tmp 5], 585⟩
theorem ok240 : FnM Tryz.prog 240 fun240 := SC.okM s240 rfl (fn := Tryz.f240) (by kernel_rfl) (by kernel_rfl)
noncomputable def s297 : SC (Tryz.f297.body.getD .skip) := SC.mk' (by simp only [Tryz.f297, go_sem]; rfl)
noncomputable def fun297 : Fun := ⟨[0, 1, 2, 3, 6, 21, 27, 7], [3, 6], [], 3, s297.1, [.cell 6 true 11, .tmp 7], 65⟩
theorem ok297 : FnM Tryz.prog 297 fun297 := SC.okM s297 rfl (fn := Tryz.f297) (by kernel_rfl) (by kernel_rfl)
noncomputable def s333 : SC (Tryz.f333.body.getD .skip) := SC.mk' (by simp only [Tryz.f333, go_sem]; rfl)
noncomputable def fun333 : Fun := ⟨[0, 2], [], [], 1, s333.1, [.tmp 2], 65⟩
theorem ok333 : FnM Tryz.prog 333 fun333 := SC.okM s333 rfl (fn := Tryz.f333) (by kernel_rfl) (by kernel_rfl)
noncomputable def s349 : SC (Tryz.f349.body.getD .skip) := SC.mk' (by simp only [Tryz.f349, go_sem]; rfl)
noncomputable def fun349 : Fun := ⟨[0, 1, 2, 9, 3, 8, 7, 10, 14, 22, 38, 6], [3, 10], [], 3, s349.1, [.tmp 6], 260⟩
theorem ok349 : FnM Tryz.prog 349 fun349 := SC.okM s349 rfl (fn := Tryz.f349) (by kernel_rfl) (by kernel_rfl)
noncomputable def s357 : SC (Tryz.f357.body.getD .skip) := SC.mk' (by simp only [Tryz.f357, go_sem]; rfl)
noncomputable def fun357 : Fun := ⟨[0, 1, 2, 6], [], [], 3, s357.1, [.tmp 6], 0⟩
theorem ok357 : FnM Tryz.prog 357 fun357 := SC.okM s357 rfl (fn := Tryz.f357) (by kernel_rfl) (by kernel_rfl)
noncomputable def s360 : SC (Tryz.f360.body.getD .skip) := SC.mk' (by simp only [Tryz.f360, go_sem]; rfl)
noncomputable def fun360 : Fun := ⟨[0, 2], [], [], 1, s360.1, [.tmp 2], 65⟩
theorem ok360 : FnM Tryz.prog 360 fun360 := SC.okM s360 rfl (fn := Tryz.f360) (by kernel_rfl) (by kernel_rfl)
noncomputable def s363 : SC (Tryz.f363.body.getD .skip) := SC.mk' (by simp only [Tryz.f363, go_sem]; rfl)
noncomputable def fun363 : Fun := ⟨[0, 1, 3], [], [], 2, s363.1, [.tmp 3], 0⟩
theorem ok363 : FnM Tryz.prog 363 fun363 := SC.okM s363 rfl (fn := Tryz.f363) (by kernel_rfl) (by kernel_rfl)
noncomputable def s367 : SC (Tryz.f367.body.getD .skip) := SC.mk' (by simp only [Tryz.f367, go_sem]; rfl)
noncomputable def fun367 : Fun := ⟨[0, 1, 2, 3, 24, 9, 45, 6, 7, 22, 43, 11, 19, 23, 25, 37, 44, 46, 53], [3, 9, 11], [], 3, s367.1, [.tmp 6, .tmp 7], 585⟩
theorem ok367 : FnM Tryz.prog 367 fun367 := SC.okM s367 rfl (fn := Tryz.f367) (by kernel_rfl) (by kernel_rfl)
noncomputable def s384 : SC (Tryz.f384.body.getD .skip) := SC.mk' (by simp only [Tryz.f384, go_sem]; rfl)
noncomputable def fun384 : Fun := ⟨[0, 1, 5, 11, 31, 43, 4], [], [], 2, s384.1, [.tmp 4], 65⟩
theorem ok384 : FnM Tryz.prog 384 fun384 := SC.okM s384 rfl (fn := Tryz.f384) (by kernel_rfl) (by kernel_rfl)
noncomputable def s388 : SC (Tryz.f388.body.getD .skip) := SC.mk' (by simp only [Tryz.f388, go_sem]; rfl)
noncomputable def fun388 : Fun := ⟨[0, 4, 2], [], [], 1, s388.1, [.tmp 2], 0⟩
theorem ok388 : FnM Tryz.prog 388 fun388 := SC.okM s388 rfl (fn := Tryz.f388) (by kernel_rfl) (by kernel_rfl)
noncomputable def s408 : SC (Tryz.f408.body.getD .skip) := SC.mk' (by simp only [Tryz.f408, go_sem]; rfl)
noncomputable def fun408 : Fun := ⟨[0, 1, 2, 3, 6, 9, 10, 23, 26, 7, 8], [3, 6], [], 3, s408.1, [.cell 6 true 11, .tmp 7, .tmp 8], 130⟩
theorem ok408 : FnM Tryz.prog 408 fun408 := SC.okM s408 rfl (fn := Tryz.f408) (by kernel_rfl) (by kernel_rfl)
noncomputable def s409 : SC (Tryz.f409.body.getD .skip) := SC.mk' (by simp only [Tryz.f409, go_sem]; rfl)
noncomputable def fun409 : Fun := ⟨[0, 1, 2, 6, 3, 8, 9, 16, 25, 7], [3, 6], [], 3, s409.1, [.cell 6 true 11, .tmp 7], 130⟩
theorem ok409 : FnM Tryz.prog 409 fun409 := SC.okM s409 rfl (fn := Tryz.f409) (by kernel_rfl) (by kernel_rfl)
noncomputable def s413 : SC (Tryz.f413.body.getD .skip) := SC.mk' (by simp only [Tryz.f413, go_sem]; rfl)
noncomputable def fun413 : Fun := ⟨[0, 1, 2, 7, 8, 9, 16, 22, 31, 68, 6], [], [], 3, s413.1, [.tmp 6], 0⟩
theorem ok413 : FnM Tryz.prog 413 fun413 := SC.okM s413 rfl (fn := Tryz.f413) (by kernel_rfl) (by kernel_rfl)
noncomputable def s422 : SC (Tryz.f422.body.getD .skip) := SC.mk' (by simp only [Tryz.f422, go_sem]; rfl)
noncomputable def fun422 : Fun := ⟨[0, 1, 2, 9, 11, 8, 10, 17, 31, 6, 7], [], [], 3, s422.1, [.tmp 6, .tmp 7], 195⟩
theorem ok422 : FnM Tryz.prog 422 fun422 := SC.okM s422 rfl (fn := Tryz.f422) (by kernel_rfl) (by kernel_rfl)
noncomputable def s450 : SC (Tryz.f450.body.getD .skip) := SC.mk' (by simp only [Tryz.f450, go_sem]; rfl)
noncomputable def fun450 : Fun := ⟨[0, 1, 2, 3, 4], [2, 3], [], 2, s450.1, [.tmp 4], 130⟩
theorem ok450 : FnM Tryz.prog 450 fun450 := SC.okM s450 rfl (fn := Tryz.f450) (by kernel_rfl) (by kernel_rfl)
noncomputable def s457 : SC (Tryz.f457.body.getD .skip) := SC.mk' (by simp only [Tryz.f457, go_sem]; rfl)
noncomputable def fun457 : Fun := ⟨[0, 8, 3, 6, 5, 7, 9, 14, 2], [], [], 1, s457.1, [.tmp 2], 0⟩
theorem ok457 : FnM Tryz.prog 457 fun457 := SC.okM s457 rfl (fn := Tryz.f457) (by kernel_rfl) (by kernel_rfl)
end Go.M
