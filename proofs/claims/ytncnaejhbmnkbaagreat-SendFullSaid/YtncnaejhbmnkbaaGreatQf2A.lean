/-
  The codes of functions, as the machine takes them.
  No condition: definitions and lemmas.
-/
import Derived.Test.YtncnaejhbmnkbaaGreatQtyA
set_option linter.all false
set_option maxRecDepth 100000
set_option maxHeartbeats 4000000
namespace Go.M
open Go Go.Proofs
open Go.Eng (SOp SOper SCode sizeP aggP zerosOf bytesP zeroVal stripCode stripOps stripOper strip stripParts kindsOf)

noncomputable def s3 : SC (Tryz.f3.body.getD .skip) := SC.mk' (by simp only [Tryz.f3, go_sem]; rfl)
noncomputable def fun3 : Fun := ⟨[0, 1, 2, 11, 7, 12, 13, 8, 10, 17, 14, 16, 9, 33, 43, 15, 86, 88, 128, 6], [7, 8, 12], [], 3, s3.1, [.tmp 6], 20⟩
theorem ok3 : FnM Tryz.prog 3 fun3 := SC.okM s3 rfl (fn := Tryz.f3) (by kernel_rfl) (by kernel_rfl)
noncomputable def s7 : SC (Tryz.f7.body.getD .skip) := SC.mk' (by simp only [Tryz.f7, go_sem]; rfl)
noncomputable def fun7 : Fun := ⟨[1, 2, 3, 4, 5, 0], [1, 2], [], 0, s7.1, [.tmp 0], 19⟩
theorem ok7 : FnM Tryz.prog 7 fun7 := SC.okM s7 rfl (fn := Tryz.f7) (by kernel_rfl) (by kernel_rfl)
noncomputable def s11 : SC (Tryz.f11.body.getD .skip) := SC.mk' (by simp only [Tryz.f11, go_sem]; rfl)
noncomputable def fun11 : Fun := ⟨[0, 1, 2, 6, 8, 9, 16, 22, 7], [6, 8], [], 3, s11.1, [.cell 6 true 8, .tmp 7], 1⟩
theorem ok11 : FnM Tryz.prog 11 fun11 := SC.okM s11 rfl (fn := Tryz.f11) (by kernel_rfl) (by kernel_rfl)
noncomputable def s13 : SC (Tryz.f13.body.getD .skip) := SC.mk' (by simp only [Tryz.f13, go_sem]; rfl)
noncomputable def fun13 : Fun := ⟨[0, 1, 2, 3, 8, 6, 5, 11, 12, 22, 30, 37, 9], [5, 6, 8, 10], [], 4, s13.1, [.cell 8 true 63, .tmp 9], 3⟩
theorem ok13 : FnM Tryz.prog 13 fun13 := SC.okM s13 rfl (fn := Tryz.f13) (by kernel_rfl) (by kernel_rfl)
noncomputable def s15 : SC (Tryz.f15.body.getD .skip) := SC.mk' (by simp only [Tryz.f15, go_sem]; rfl)
noncomputable def fun15 : Fun := ⟨[0, 1, 3, 7, 11, 2], [1], [], 1, s15.1, [.tmp 2], 7⟩
theorem ok15 : FnM Tryz.prog 15 fun15 := SC.okM s15 rfl (fn := Tryz.f15) (by kernel_rfl) (by kernel_rfl)
noncomputable def s18 : SC (Tryz.f18.body.getD .skip) := SC.mk' (by simp only [Tryz.f18, go_sem]; rfl)
noncomputable def fun18 : Fun := ⟨[0, 2, 9, 3], [2], [], 1, s18.1, [.cell 2 true 3, .tmp 3], 0⟩
theorem ok18 : FnM Tryz.prog 18 fun18 := SC.okM s18 rfl (fn := Tryz.f18) (by kernel_rfl) (by kernel_rfl)
noncomputable def s28 : SC (Tryz.f28.body.getD .skip) := SC.mk' (by simp only [Tryz.f28, go_sem]; rfl)
noncomputable def fun28 : Fun := ⟨[0, 1, 2, 4, 5, 12, 3], [1, 2, 4], [], 1, s28.1, [.cell 2 true 23, .tmp 3], 3⟩
theorem ok28 : FnM Tryz.prog 28 fun28 := SC.okM s28 rfl (fn := Tryz.f28) (by kernel_rfl) (by kernel_rfl)
noncomputable def s33 : SC (Tryz.f33.body.getD .skip) := SC.mk' (by simp only [Tryz.f33, go_sem]; rfl)
noncomputable def fun33 : Fun := ⟨[0, 1, 2, 3, 7, 4, 6, 36], [3, 4, 6, 7], [], 3, s33.1, [.cell 6 true 63], 1⟩
theorem ok33 : FnM Tryz.prog 33 fun33 := SC.okM s33 rfl (fn := Tryz.f33) (by kernel_rfl) (by kernel_rfl)
noncomputable def s36 : SC (Tryz.f36.body.getD .skip) := SC.mk' (by simp only [Tryz.f36, go_sem]; rfl)
noncomputable def fun36 : Fun := ⟨[0, 5, 11, 3, 2], [], [], 1, s36.1, [.tmp 2], 2⟩
theorem ok36 : FnM Tryz.prog 36 fun36 := SC.okM s36 rfl (fn := Tryz.f36) (by kernel_rfl) (by kernel_rfl)
noncomputable def s37 : SC (Tryz.f37.body.getD .skip) := SC.mk' (by simp only [Tryz.f37, go_sem]; rfl)
noncomputable def fun37 : Fun := ⟨[0, 1, 2], [1, 2], [], 1, s37.1, [.cell 2 true 3], 0⟩
theorem ok37 : FnM Tryz.prog 37 fun37 := SC.okM s37 rfl (fn := Tryz.f37) (by kernel_rfl) (by kernel_rfl)
noncomputable def s40 : SC (Tryz.f40.body.getD .skip) := SC.mk' (by simp only [Tryz.f40, go_sem]; rfl)
noncomputable def fun40 : Fun := ⟨[0, 1, 2, 3, 11, 8, 9, 12, 4, 5, 22, 10], [4, 5, 8, 9], [], 4, s40.1, [.cell 8 true 11, .cell 9 true 26, .tmp 10], 13⟩
theorem ok40 : FnM Tryz.prog 40 fun40 := SC.okM s40 rfl (fn := Tryz.f40) (by kernel_rfl) (by kernel_rfl)
noncomputable def s41 : SC (Tryz.f41.body.getD .skip) := SC.mk' (by simp only [Tryz.f41, go_sem]; rfl)
noncomputable def fun41 : Fun := ⟨[0, 1, 6, 2, 3, 7, 8, 10, 9, 11, 28, 52, 71, 106, 117, 4, 5], [1, 2, 3, 6, 7, 8, 9, 11], [85, 90], 1, s41.1, [.cell 2 true 63, .cell 3 true 6, .tmp 4, .tmp 5], 9⟩
theorem ok41 : FnM Tryz.prog 41 fun41 := SC.okM s41 rfl (fn := Tryz.f41) (by kernel_rfl) (by kernel_rfl)
noncomputable def s62 : SC (Tryz.f62.body.getD .skip) := SC.mk' (by simp only [Tryz.f62, go_sem]; rfl)
noncomputable def fun62 : Fun := ⟨[0, 3, 4, 5, 35, 2], [], [], 1, s62.1, [.tmp 2], 12⟩
theorem ok62 : FnM Tryz.prog 62 fun62 := SC.okM s62 rfl (fn := Tryz.f62) (by kernel_rfl) (by kernel_rfl)
noncomputable def s71 : SC (Tryz.f71.body.getD .skip) := SC.mk' (by simp only [Tryz.f71, go_sem]; rfl)
noncomputable def fun71 : Fun := ⟨[0, 1, 2, 8, 3], [1, 2], [], 1, s71.1, [.cell 2 true 26, .tmp 3], 2⟩
theorem ok71 : FnM Tryz.prog 71 fun71 := SC.okM s71 rfl (fn := Tryz.f71) (by kernel_rfl) (by kernel_rfl)
noncomputable def s83 : SC (Tryz.f83.body.getD .skip) := SC.mk' (by simp only [Tryz.f83, go_sem]; rfl)
noncomputable def fun83 : Fun := ⟨[0, 1, 9, 7, 8, 10, 6, 4], [], [], 2, s83.1, [.tmp 4], 0⟩
theorem ok83 : FnM Tryz.prog 83 fun83 := SC.okM s83 rfl (fn := Tryz.f83) (by kernel_rfl) (by kernel_rfl)
noncomputable def s87 : SC (Tryz.f87.body.getD .skip) := SC.mk' (by simp only [Tryz.f87, go_sem]; rfl)
noncomputable def fun87 : Fun := ⟨[0, 1, 3, 4], [], [], 2, s87.1, [.tmp 4], 2⟩
theorem ok87 : FnM Tryz.prog 87 fun87 := SC.okM s87 rfl (fn := Tryz.f87) (by kernel_rfl) (by kernel_rfl)
noncomputable def s88 : SC (Tryz.f88.body.getD .skip) := SC.mk' (by simp only [Tryz.f88, go_sem]; rfl)
noncomputable def fun88 : Fun := ⟨[0, 1, 11, 4, 41, 7, 9, 48, 10, 12, 3, 5, 36, 40, 42, 6, 47, 49, 51, 59, 2], [1], [], 1, s88.1, [.tmp 2], 3⟩
theorem ok88 : FnM Tryz.prog 88 fun88 := SC.okM s88 rfl (fn := Tryz.f88) (by kernel_rfl) (by kernel_rfl)
noncomputable def s92 : SC (Tryz.f92.body.getD .skip) := SC.mk' (by simp only [Tryz.f92, go_sem]; rfl)
noncomputable def fun92 : Fun := ⟨[0, 3, 4, 5, 6, 28, 44, 64, 95, 2], [5], [], 1, s92.1, [.tmp 2], 2⟩
theorem ok92 : FnM Tryz.prog 92 fun92 := SC.okM s92 rfl (fn := Tryz.f92) (by kernel_rfl) (by kernel_rfl)
noncomputable def s101 : SC (Tryz.f101.body.getD .skip) := SC.mk' (by simp only [Tryz.f101, go_sem]; rfl)
noncomputable def fun101 : Fun := ⟨[0, 1, 38, 42, 2], [1], [], 1, s101.1, [.tmp 2], 1⟩
theorem ok101 : FnM Tryz.prog 101 fun101 := SC.okM s101 rfl (fn := Tryz.f101) (by kernel_rfl) (by kernel_rfl)
noncomputable def s124 : SC (Tryz.f124.body.getD .skip) := SC.mk' (by simp only [Tryz.f124, go_sem]; rfl)
noncomputable def fun124 : Fun := ⟨[0, 1, 2, 4, 6, 7, 10, 3, 20, 11, 30, 38, 8], [3, 4, 6, 7], [], 3, s124.1, [.cell 6 true 11, .cell 7 true 5, .tmp 8], 4⟩
theorem ok124 : FnM Tryz.prog 124 fun124 := SC.okM s124 rfl (fn := Tryz.f124) (by kernel_rfl) (by kernel_rfl)
noncomputable def s128 : SC (Tryz.f128.body.getD .skip) := SC.mk' (by simp only [Tryz.f128, go_sem]; rfl)
noncomputable def fun128 : Fun := ⟨[0, 2], [], [], 1, s128.1, [.tmp 2], 0⟩
theorem ok128 : FnM Tryz.prog 128 fun128 := SC.okM s128 rfl (fn := Tryz.f128) (by kernel_rfl) (by kernel_rfl)
noncomputable def s135 : SC (Tryz.f135.body.getD .skip) := SC.mk' (by simp only [Tryz.f135, go_sem]; rfl)
noncomputable def fun135 : Fun := ⟨[0, 1, 2, 4, 6, 11, 3, 8, 9, 13, 22, 33, 44, 48, 52, 7], [3, 4, 6], [], 3, s135.1, [.cell 6 true 4, .tmp 7], 1⟩
theorem ok135 : FnM Tryz.prog 135 fun135 := SC.okM s135 rfl (fn := Tryz.f135) (by kernel_rfl) (by kernel_rfl)
noncomputable def s143 : SC (Tryz.f143.body.getD .skip) := SC.mk' (by simp only [Tryz.f143, go_sem]; rfl)
noncomputable def fun143 : Fun := ⟨[0, 1, 4], [], [], 2, s143.1, [.tmp 4], 0⟩
theorem ok143 : FnM Tryz.prog 143 fun143 := SC.okM s143 rfl (fn := Tryz.f143) (by kernel_rfl) (by kernel_rfl)
noncomputable def s145 : SC (Tryz.f145.body.getD .skip) := SC.mk' (by simp only [Tryz.f145, go_sem]; rfl)
noncomputable def fun145 : Fun := ⟨[0, 1, 2, 6], [], [], 3, s145.1, [.tmp 6], 0⟩
theorem ok145 : FnM Tryz.prog 145 fun145 := SC.okM s145 rfl (fn := Tryz.f145) (by kernel_rfl) (by kernel_rfl)
noncomputable def s147 : SC (Tryz.f147.body.getD .skip) := SC.mk' (by simp only [Tryz.f147, go_sem]; rfl)
noncomputable def fun147 : Fun := ⟨[0, 1, 2, 3, 4], [2], [], 2, s147.1, [.tmp 4], 5⟩
theorem ok147 : FnM Tryz.prog 147 fun147 := SC.okM s147 rfl (fn := Tryz.f147) (by kernel_rfl) (by kernel_rfl)
noncomputable def s186 : SC (Tryz.f186.body.getD .skip) := SC.mk' (by simp only [Tryz.f186, go_sem]; rfl)
noncomputable def fun186 : Fun := ⟨[0, 1, 2, 4, 3, 6, 7, 9, 20, 37, 54, 58, 8], [3, 4, 6, 7], [], 3, s186.1, [.cell 6 true 11, .cell 7 true 5, .tmp 8], 3⟩
theorem ok186 : FnM Tryz.prog 186 fun186 := SC.okM s186 rfl (fn := Tryz.f186) (by kernel_rfl) (by kernel_rfl)
noncomputable def s188 : SC (Tryz.f188.body.getD .skip) := SC.mk' (by simp only [Tryz.f188, go_sem]; rfl)
noncomputable def fun188 : Fun := ⟨[0, 1, 3], [], [], 2, s188.1, [.tmp 3], 0⟩
theorem ok188 : FnM Tryz.prog 188 fun188 := SC.okM s188 rfl (fn := Tryz.f188) (by kernel_rfl) (by kernel_rfl)
noncomputable def s191 : SC (Tryz.f191.body.getD .skip) := SC.mk' (by simp only [Tryz.f191, go_sem]; rfl)
noncomputable def fun191 : Fun := ⟨[0, 1, 2, 4], [2], [], 2, s191.1, [.tmp 4], 0⟩
theorem ok191 : FnM Tryz.prog 191 fun191 := SC.okM s191 rfl (fn := Tryz.f191) (by kernel_rfl) (by kernel_rfl)
noncomputable def s200 : SC (Tryz.f200.body.getD .skip) := SC.mk' (by simp only [Tryz.f200, go_sem]; rfl)
noncomputable def fun200 : Fun := ⟨[0, 1, 2, 4], [2], [], 2, s200.1, [.tmp 4], 0⟩
theorem ok200 : FnM Tryz.prog 200 fun200 := SC.okM s200 rfl (fn := Tryz.f200) (by kernel_rfl) (by kernel_rfl)
noncomputable def s201 : SC (Tryz.f201.body.getD .skip) := SC.mk' (by simp only [Tryz.f201, go_sem]; rfl)
noncomputable def fun201 : Fun := ⟨[0, 1, 7, 3, 6, 8, 4, 2], [1], [], 1, s201.1, [.tmp 2], 1⟩
theorem ok201 : FnM Tryz.prog 201 fun201 := SC.okM s201 rfl (fn := Tryz.f201) (by kernel_rfl) (by kernel_rfl)
noncomputable def s208 : SC (Tryz.f208.body.getD .skip) := SC.mk' (by simp only [Tryz.f208, go_sem]; rfl)
noncomputable def fun208 : Fun := ⟨[0, 4, 2], [], [], 1, s208.1, [.tmp 2], 0⟩
theorem ok208 : FnM Tryz.prog 208 fun208 := SC.okM s208 rfl (fn := Tryz.f208) (by kernel_rfl) (by kernel_rfl)
noncomputable def s211 : SC (Tryz.f211.body.getD .skip) := SC.mk' (by simp only [Tryz.f211, go_sem]; rfl)
noncomputable def fun211 : Fun := ⟨[0, 1, 2, 3, 5, 6, 10, 15, 17, 24, 4], [2, 3], [], 2, s211.1, [.tmp 4], 3⟩
theorem ok211 : FnM Tryz.prog 211 fun211 := SC.okM s211 rfl (fn := Tryz.f211) (by kernel_rfl) (by kernel_rfl)
noncomputable def s212 : SC (Tryz.f212.body.getD .skip) := SC.mk' (by simp only [Tryz.f212, go_sem]; rfl)
noncomputable def fun212 : Fun := ⟨[0, 1, 2], [1, 2], [], 1, s212.1, [.cell 2 true 3], 1⟩
theorem ok212 : FnM Tryz.prog 212 fun212 := SC.okM s212 rfl (fn := Tryz.f212) (by kernel_rfl) (by kernel_rfl)
noncomputable def s261 : SC (Tryz.f261.body.getD .skip) := SC.mk' (by simp only [Tryz.f261, go_sem]; rfl)
noncomputable def fun261 : Fun := ⟨[0, 1, 2, 6, 3, 8, 9, 16, 25, 7], [3, 6], [], 3, s261.1, [.cell 6 true 11, .tmp 7], 2⟩
theorem ok261 : FnM Tryz.prog 261 fun261 := SC.okM s261 rfl (fn := Tryz.f261) (by kernel_rfl) (by kernel_rfl)
noncomputable def s269 : SC (Tryz.f269.body.getD .skip) := SC.mk' (by simp only [Tryz.f269, go_sem]; rfl)
noncomputable def fun269 : Fun := ⟨[0, 2], [], [], 1, s269.1, [.tmp 2], 1⟩
theorem ok269 : FnM Tryz.prog 269 fun269 := SC.okM s269 rfl (fn := Tryz.f269) (by kernel_rfl) (by kernel_rfl)
noncomputable def s270 : SC (Tryz.f270.body.getD .skip) := SC.mk' (by simp only [Tryz.f270, go_sem]; rfl)
noncomputable def fun270 : Fun := ⟨[0, 1, 2, 4], [2], [], 2, s270.1, [.tmp 4], 0⟩
theorem ok270 : FnM Tryz.prog 270 fun270 := SC.okM s270 rfl (fn := Tryz.f270) (by kernel_rfl) (by kernel_rfl)
noncomputable def s307 : SC (Tryz.f307.body.getD .skip) := SC.mk' (by simp only [Tryz.f307, go_sem]; rfl)
noncomputable def fun307 : Fun := ⟨[0, 1, 4], [], [], 2, s307.1, [.tmp 4], 1⟩
theorem ok307 : FnM Tryz.prog 307 fun307 := SC.okM s307 rfl (fn := Tryz.f307) (by kernel_rfl) (by kernel_rfl)
noncomputable def s308 : SC (Tryz.f308.body.getD .skip) := SC.mk' (by simp only [Tryz.f308, go_sem]; rfl)
noncomputable def fun308 : Fun := ⟨[0, 1, 8, 5, 7, 9, 16, 4], [], [], 2, s308.1, [.tmp 4], 2⟩
theorem ok308 : FnM Tryz.prog 308 fun308 := SC.okM s308 rfl (fn := Tryz.f308) (by kernel_rfl) (by kernel_rfl)
end Go.M
