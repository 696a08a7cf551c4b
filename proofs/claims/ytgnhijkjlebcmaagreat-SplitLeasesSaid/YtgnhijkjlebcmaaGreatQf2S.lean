/-
  The codes of functions, as the machine takes them.
  No condition: definitions and lemmas.
-/
import Derived.Test.YtgnhijkjlebcmaaGreatQtyS
set_option linter.all false
set_option maxRecDepth 100000
set_option maxHeartbeats 4000000
namespace Go.M
open Go Go.Proofs
open Go.Eng (SOp SOper SCode sizeP aggP zerosOf bytesP zeroVal stripCode stripOps stripOper strip stripParts kindsOf kinds2)
noncomputable def s14 : SC (Tryz.f14.body.getD .skip) := SC.mk' (by simp only [Tryz.f14, go_sem]; rfl)
noncomputable def fun14 : Fun := ⟨[0, 1, 2, 3, 8, 6, 5, 11, 12, 22, 30, 37, 9], [5, 6, 8, 10], [], 4, s14.1, [.cell 8 true 63, .tmp 9], 195⟩
theorem ok14 : FnM Tryz.prog 14 fun14 := SC.okM s14 rfl (fn := Tryz.f14) (by kernel_rfl) (by kernel_rfl)
noncomputable def s21 : SC (Tryz.f21.body.getD .skip) := SC.mk' (by simp only [Tryz.f21, go_sem]; rfl)
noncomputable def fun21 : Fun := ⟨[0, 4, 2, 9, 5, 6, 47, 3], [2, 4], [], 1, s21.1, [.cell 2 true 4, .tmp 3], 195⟩
theorem ok21 : FnM Tryz.prog 21 fun21 := SC.okM s21 rfl (fn := Tryz.f21) (by kernel_rfl) (by kernel_rfl)
noncomputable def s29 : SC (Tryz.f29.body.getD .skip) := SC.mk' (by simp only [Tryz.f29, go_sem]; rfl)
noncomputable def fun29 : Fun := ⟨[0, 1, 5, 7, 2, 4, 15], [2, 4, 5], [], 2, s29.1, [.cell 4 true 11], 1170⟩
theorem ok29 : FnM Tryz.prog 29 fun29 := SC.okM s29 rfl (fn := Tryz.f29) (by kernel_rfl) (by kernel_rfl)
noncomputable def s42 : SC (Tryz.f42.body.getD .skip) := SC.mk' (by simp only [Tryz.f42, go_sem]; rfl)
noncomputable def fun42 : Fun := ⟨[0, 3, 4, 6, 2], [], [], 1, s42.1, [.tmp 2], 0⟩
theorem ok42 : FnM Tryz.prog 42 fun42 := SC.okM s42 rfl (fn := Tryz.f42) (by kernel_rfl) (by kernel_rfl)
noncomputable def s49 : SC (Tryz.f49.body.getD .skip) := SC.mk' (by simp only [Tryz.f49, go_sem]; rfl)
noncomputable def fun49 : Fun := ⟨[0, 1, 5, 4, 2, 16, 17, 29, 3], [1, 2, 4, 5], [], 1, s49.1, [.cell 2 true 8, .tmp 3], 715⟩
theorem ok49 : FnM Tryz.prog 49 fun49 := SC.okM s49 rfl (fn := Tryz.f49) (by kernel_rfl) (by kernel_rfl)
noncomputable def s67 : SC (Tryz.f67.body.getD .skip) := SC.mk' (by simp only [Tryz.f67, go_sem]; rfl)
noncomputable def fun67 : Fun := ⟨[0, 1, 2, 19, 4, 6, 7, 3, 40, 112, 11, 20, 30, 52, 62, 72, 82, 92, 102, 123, 8, 9], [3, 4, 6, 7], [], 3, s67.1, [.cell 6 true 11, .cell 7 true 63, .tmp 8, .tmp 9], 975⟩
theorem ok67 : FnM Tryz.prog 67 fun67 := SC.okM s67 rfl (fn := Tryz.f67) (by kernel_rfl) (by kernel_rfl)
noncomputable def s69 : SC (Tryz.f69.body.getD .skip) := SC.mk' (by simp only [Tryz.f69, go_sem]; rfl)
noncomputable def fun69 : Fun := ⟨[0, 1, 3, 6, 2], [1], [], 1, s69.1, [.tmp 2], 0⟩
theorem ok69 : FnM Tryz.prog 69 fun69 := SC.okM s69 rfl (fn := Tryz.f69) (by kernel_rfl) (by kernel_rfl)
noncomputable def s95 : SC (Tryz.f95.body.getD .skip) := SC.mk' (by simp only [Tryz.f95, go_sem]; rfl)
noncomputable def fun95 : Fun := ⟨[0, 1, 2], [1, 2], [], 1, s95.1, [.cell 2 true 3], 0⟩
theorem ok95 : FnM Tryz.prog 95 fun95 := SC.okM s95 rfl (fn := Tryz.f95) (by kernel_rfl) (by kernel_rfl)
noncomputable def s120 : SC (Tryz.f120.body.getD .skip) := SC.mk' (by simp only [Tryz.f120, go_sem]; rfl)
noncomputable def fun120 : Fun := ⟨[0], [0], [], 0, s120.1, [.cell 0 true 4], 0⟩
theorem ok120 : FnM Tryz.prog 120 fun120 := SC.okM s120 rfl (fn := Tryz.f120) (by kernel_rfl) (by kernel_rfl)
noncomputable def s132 : SC (Tryz.f132.body.getD .skip) := SC.mk' (by simp only [Tryz.f132, go_sem]; rfl)
noncomputable def fun132 : Fun := ⟨[0, 1, 6, 7, 8, 3, 4, 5, 13, 19, 31, 43, 49, 55, 61, 81, 85, 96, 2], [1], [], 1, s132.1, [.tmp 2], 390⟩
theorem ok132 : FnM Tryz.prog 132 fun132 := SC.okM s132 rfl (fn := Tryz.f132) (by kernel_rfl) (by kernel_rfl)
noncomputable def s145 : SC (Tryz.f145.body.getD .skip) := SC.mk' (by simp only [Tryz.f145, go_sem]; rfl)
noncomputable def fun145 : Fun := ⟨[0, 4, 3, 8, 2], [], [], 1, s145.1, [.tmp 2], 0⟩
theorem ok145 : FnM Tryz.prog 145 fun145 := SC.okM s145 rfl (fn := Tryz.f145) (by kernel_rfl) (by kernel_rfl)
noncomputable def s194 : SC (Tryz.f194.body.getD .skip) := SC.mk' (by simp only [Tryz.f194, go_sem]; rfl)
noncomputable def fun194 : Fun := ⟨[0, 1, 2, 4, 6, 7, 15, 3, 9, 11, 56, 12, 13, 16, 10, 32, 36, 47, 49, 73, 90, 94, 101, 109, 8], [3, 4, 6, 7, 9, 12], [], 3, s194.1, [.cell 6 true 11, .cell 7 true 5, .tmp 8], 130⟩
theorem ok194 : FnM Tryz.prog 194 fun194 := SC.okM s194 rfl (fn := Tryz.f194) (by kernel_rfl) (by kernel_rfl)
noncomputable def s209 : SC (Tryz.f209.body.getD .skip) := SC.mk' (by simp only [Tryz.f209, go_sem]; rfl)
noncomputable def fun209 : Fun := ⟨[0, 2], [], [], 1, s209.1, [.tmp 2], 0⟩
theorem ok209 : FnM Tryz.prog 209 fun209 := SC.okM s209 rfl (fn := Tryz.f209) (by kernel_rfl) (by kernel_rfl)
noncomputable def s243 : SC (Tryz.f243.body.getD .skip) := SC.mk' (by simp only [Tryz.f243, go_sem]; rfl)
noncomputable def fun243 : Fun := ⟨[0, 1, 2, 4], [2], [], 2, s243.1, [.tmp 4], 0⟩
theorem ok243 : FnM Tryz.prog 243 fun243 := SC.okM s243 rfl (fn := Tryz.f243) (by kernel_rfl) (by kernel_rfl)
noncomputable def s263 : SC (Tryz.f263.body.getD .skip) := SC.mk' (by simp only [Tryz.f263, go_sem]; rfl)
noncomputable def fun263 : Fun := ⟨[0, 1, 2, 3, 4, 8, 12, 13, 11, 14, 15, 20, 35, 45, 9, 10], [4, 8, 14, 15], [], 4, s263.1, [.cell 8 true 8, .tmp 9, .tmp 10], 520⟩
theorem ok263 : FnM Tryz.prog 263 fun263 := SC.okM s263 rfl (fn := Tryz.f263) (by kernel_rfl) (by kernel_rfl)
noncomputable def s267 : SC (Tryz.f267.body.getD .skip) := SC.mk' (by simp only [Tryz.f267, go_sem]; rfl)
noncomputable def fun267 : Fun := ⟨[0, 1, 2, 4, 6, 7, 10, 3, 20, 11, 30, 38, 8], [3, 4, 6, 7], [], 3, s267.1, [.cell 6 true 11, .cell 7 true 5, .tmp 8], 260⟩
theorem ok267 : FnM Tryz.prog 267 fun267 := SC.okM s267 rfl (fn := Tryz.f267) (by kernel_rfl) (by kernel_rfl)
noncomputable def s269 : SC (Tryz.f269.body.getD .skip) := SC.mk' (by simp only [Tryz.f269, go_sem]; rfl)
noncomputable def fun269 : Fun := ⟨[0, 1], [], [], 2, s269.1, [], 0⟩
theorem ok269 : FnM Tryz.prog 269 fun269 := SC.okM s269 rfl (fn := Tryz.f269) (by kernel_rfl) (by kernel_rfl)
noncomputable def s272 : SC (Tryz.f272.body.getD .skip) := SC.mk' (by simp only [Tryz.f272, go_sem]; rfl)
noncomputable def fun272 : Fun := ⟨[0, 1, 2, 4, 10, 16, 3], [1, 2], [], 1, s272.1, [.cell 2 true 4, .tmp 3], 65⟩
theorem ok272 : FnM Tryz.prog 272 fun272 := SC.okM s272 rfl (fn := Tryz.f272) (by kernel_rfl) (by kernel_rfl)
noncomputable def s286 : SC (Tryz.f286.body.getD .skip) := SC.mk' (by simp only [Tryz.f286, go_sem]; rfl)
noncomputable def fun286 : Fun := ⟨[0, 1, 2, 3, 4], [3], [], 3, s286.1, [.tmp 4], 65⟩
theorem ok286 : FnM Tryz.prog 286 fun286 := SC.okM s286 rfl (fn := Tryz.f286) (by kernel_rfl) (by kernel_rfl)
noncomputable def s288 : SC (Tryz.f288.body.getD .skip) := SC.mk' (by simp only [Tryz.f288, go_sem]; rfl)
noncomputable def fun288 : Fun := ⟨[0, 1, 5, 6, 7, 12, 19, 29, 4], [7], [], 2, s288.1, [.tmp 4], 845⟩
theorem ok288 : FnM Tryz.prog 288 fun288 := SC.okM s288 rfl (fn := Tryz.f288) (by kernel_rfl) (by kernel_rfl)
noncomputable def s294 : SC (Tryz.f294.body.getD .skip) := SC.mk' (by simp only [Tryz.f294, go_sem]; rfl)
noncomputable def fun294 : Fun := ⟨[0, 1, 7, 3, 6, 8, 4, 2], [1], [], 1, s294.1, [.tmp 2], 65⟩
theorem ok294 : FnM Tryz.prog 294 fun294 := SC.okM s294 rfl (fn := Tryz.f294) (by kernel_rfl) (by kernel_rfl)
noncomputable def s308 : SC (Tryz.f308.body.getD .skip) := SC.mk' (by simp only [Tryz.f308, go_sem]; rfl)
noncomputable def fun308 : Fun := ⟨[0, 1, 2, 4, 5, 13, 3], [1, 2, 4], [], 1, s308.1, [.cell 2 true 26, .tmp 3], 65⟩
theorem ok308 : FnM Tryz.prog 308 fun308 := SC.okM s308 rfl (fn := Tryz.f308) (by kernel_rfl) (by kernel_rfl)
noncomputable def s310 : SC (Tryz.f310.body.getD .skip) := SC.mk' (by simp only [Tryz.f310, go_sem]; rfl)
noncomputable def fun310 : Fun := ⟨[0, 4, 5, 3, 8, 12, 20, 24, 35, 39, 52, 2], [], [], 1, s310.1, [.tmp 2], 65⟩
theorem ok310 : FnM Tryz.prog 310 fun310 := SC.okM s310 rfl (fn := Tryz.f310) (by kernel_rfl) (by kernel_rfl)
noncomputable def s312 : SC (Tryz.f312.body.getD .skip) := SC.mk' (by simp only [Tryz.f312, go_sem]; rfl)
noncomputable def fun312 : Fun := ⟨[0, 4, 1, 3, 10, 2], [1], [], 1, s312.1, [.tmp 2], 0⟩
theorem ok312 : FnM Tryz.prog 312 fun312 := SC.okM s312 rfl (fn := Tryz.f312) (by kernel_rfl) (by kernel_rfl)
noncomputable def s314 : SC (Tryz.f314.body.getD .skip) := SC.mk' (by simp only [Tryz.f314, go_sem]; rfl)
noncomputable def fun314 : Fun := ⟨[0, 1, 2, 4], [2], [], 2, s314.1, [.tmp 4], 0⟩
theorem ok314 : FnM Tryz.prog 314 fun314 := SC.okM s314 rfl (fn := Tryz.f314) (by kernel_rfl) (by kernel_rfl)
noncomputable def s315 : SC (Tryz.f315.body.getD .skip) := SC.mk' (by simp only [Tryz.f315, go_sem]; rfl)
noncomputable def fun315 : Fun := ⟨[0, 1, 5, 9, 18, 4], [], [], 2, s315.1, [.tmp 4], 0⟩
theorem ok315 : FnM Tryz.prog 315 fun315 := SC.okM s315 rfl (fn := Tryz.f315) (by kernel_rfl) (by kernel_rfl)
noncomputable def s357 : SC (Tryz.f357.body.getD .skip) := SC.mk' (by simp only [Tryz.f357, go_sem]; rfl)
noncomputable def fun357 : Fun := ⟨[0, 1, 2, 6], [], [], 3, s357.1, [.tmp 6], 0⟩
theorem ok357 : FnM Tryz.prog 357 fun357 := SC.okM s357 rfl (fn := Tryz.f357) (by kernel_rfl) (by kernel_rfl)
noncomputable def s362 : SC (Tryz.f362.body.getD .skip) := SC.mk' (by simp only [Tryz.f362, go_sem]; rfl)
noncomputable def fun362 : Fun := ⟨[0, 4, 2], [], [], 1, s362.1, [.tmp 2], 0⟩
theorem ok362 : FnM Tryz.prog 362 fun362 := SC.okM s362 rfl (fn := Tryz.f362) (by kernel_rfl) (by kernel_rfl)
noncomputable def s365 : SC (Tryz.f365.body.getD .skip) := SC.mk' (by simp only [Tryz.f365, go_sem]; rfl)
noncomputable def fun365 : Fun := ⟨[0, 1, 2, 3, 6, 4, 7, 13, 25, 5], [2, 3, 4, 7], [], 2, s365.1, [.cell 4 true 3, .tmp 5], 195⟩
theorem ok365 : FnM Tryz.prog 365 fun365 := SC.okM s365 rfl (fn := Tryz.f365) (by kernel_rfl) (by kernel_rfl)
noncomputable def s372 : SC (Tryz.f372.body.getD .skip) := SC.mk' (by simp only [Tryz.f372, go_sem]; rfl)
noncomputable def fun372 : Fun := ⟨[0, 1, 8, 5, 7, 9, 16, 4], [], [], 2, s372.1, [.tmp 4], 195⟩
theorem ok372 : FnM Tryz.prog 372 fun372 := SC.okM s372 rfl (fn := Tryz.f372) (by kernel_rfl) (by kernel_rfl)
noncomputable def s377 : SC (Tryz.f377.body.getD .skip) := SC.mk' (by simp only [Tryz.f377, go_sem]; rfl)
noncomputable def fun377 : Fun := ⟨[0, 1, 2, 3, 6, 11], [3, 6], [], 3, s377.1, [.cell 6 true 11], 0⟩
theorem ok377 : FnM Tryz.prog 377 fun377 := SC.okM s377 rfl (fn := Tryz.f377) (by kernel_rfl) (by kernel_rfl)
noncomputable def s390 : SC (Tryz.f390.body.getD .skip) := SC.mk' (by simp only [Tryz.f390, go_sem]; rfl)
noncomputable def fun390 : Fun := ⟨[0, 1, 4], [], [], 2, s390.1, [.tmp 4], 65⟩
theorem ok390 : FnM Tryz.prog 390 fun390 := SC.okM s390 rfl (fn := Tryz.f390) (by kernel_rfl) (by kernel_rfl)
noncomputable def s405 : SC (Tryz.f405.body.getD .skip) := SC.mk' (by simp only [Tryz.f405, go_sem]; rfl)
noncomputable def fun405 : Fun := ⟨[0, 1, 2, 3, 6, 4, 10, 8, 9, 17, 23, 26, 31, 39, 45, 68, 11, 13, 7], [3, 4, 6], [], 3, s405.1, [.cell 6 true 2, .tmp 7], 195⟩
theorem ok405 : FnM Tryz.prog 405 fun405 := SC.okM s405 rfl (fn := Tryz.f405) (by kernel_rfl) (by kernel_rfl)
noncomputable def s428 : SC (Tryz.f428.body.getD .skip) := SC.mk' (by simp only [Tryz.f428, go_sem]; rfl)
noncomputable def fun428 : Fun := ⟨[0, 1, 5, 15, 4], [], [], 2, s428.1, [.tmp 4], 260⟩
theorem ok428 : FnM Tryz.prog 428 fun428 := SC.okM s428 rfl (fn := Tryz.f428) (by kernel_rfl) (by kernel_rfl)
noncomputable def s433 : SC (Tryz.f433.body.getD .skip) := SC.mk' (by simp only [Tryz.f433, go_sem]; rfl)
noncomputable def fun433 : Fun := ⟨[0, 1, 2, 6, 16, 4, 5], [2], [], 2, s433.1, [.tmp 4, .tmp 5], 0⟩
theorem ok433 : FnM Tryz.prog 433 fun433 := SC.okM s433 rfl (fn := Tryz.f433) (by kernel_rfl) (by kernel_rfl)
noncomputable def s457 : SC (Tryz.f457.body.getD .skip) := SC.mk' (by simp only [Tryz.f457, go_sem]; rfl)
noncomputable def fun457 : Fun := ⟨[0, 8, 3, 6, 5, 7, 9, 14, 2], [], [], 1, s457.1, [.tmp 2], 0⟩
theorem ok457 : FnM Tryz.prog 457 fun457 := SC.okM s457 rfl (fn := Tryz.f457) (by kernel_rfl) (by kernel_rfl)
end Go.M
