/-
  The codes of functions, as the machine takes them.
  No condition: definitions and lemmas.
-/
import Derived.Test.YthhjbngoibmpgaaGreatQtym
set_option linter.all false
set_option maxRecDepth 100000
set_option maxHeartbeats 4000000
namespace Go.M
open Go Go.Proofs
open Go.Eng (SOp SOper SCode sizeP aggP zerosOf bytesP zeroVal stripCode stripOps stripOper strip stripParts kindsOf)

noncomputable def s17 : SC (Tryz.f17.body.getD .skip) := SC.mk' (by simp only [Tryz.f17, go_sem]; rfl)
noncomputable def fun17 : Fun := ⟨[0, 1, 4, 6, 7, 14, 22, 5], [4, 6], [], 2, s17.1, [.cell 4 true 26, .tmp 5], 130⟩
theorem ok17 : FnM Tryz.prog 17 fun17 := SC.okM s17 rfl (fn := Tryz.f17) (by kernel_rfl) (by kernel_rfl)
noncomputable def s31 : SC (Tryz.f31.body.getD .skip) := SC.mk' (by simp only [Tryz.f31, go_sem]; rfl)
noncomputable def fun31 : Fun := ⟨[0, 1, 2, 4, 5, 12, 3], [1, 2, 4], [], 1, s31.1, [.cell 2 true 23, .tmp 3], 195⟩
theorem ok31 : FnM Tryz.prog 31 fun31 := SC.okM s31 rfl (fn := Tryz.f31) (by kernel_rfl) (by kernel_rfl)
noncomputable def s38 : SC (Tryz.f38.body.getD .skip) := SC.mk' (by simp only [Tryz.f38, go_sem]; rfl)
noncomputable def fun38 : Fun := ⟨[0, 1, 2, 4, 11, 6, 7, 10, 3, 78, 79, 95, 12, 21, 47, 68, 86, 96, 104, 114, 122, 8, 9], [3, 4, 6, 7, 12], [], 3, s38.1, [.cell 6 true 11, .cell 7 true 63, .tmp 8, .tmp 9], 1300⟩
theorem ok38 : FnM Tryz.prog 38 fun38 := SC.okM s38 rfl (fn := Tryz.f38) (by kernel_rfl) (by kernel_rfl)
noncomputable def s40 : SC (Tryz.f40.body.getD .skip) := SC.mk' (by simp only [Tryz.f40, go_sem]; rfl)
noncomputable def fun40 : Fun := ⟨[0, 1, 2, 3, 12, 15, 4, 17, 8, 14, 16, 5, 6, 33, 18, 19, 53, 9, 10, 11], [4, 5, 6, 8, 12, 16, 17], [], 4, s40.1, [.cell 8 true 11, .tmp 9, .tmp 10, .tmp 11], 1365⟩
theorem ok40 : FnM Tryz.prog 40 fun40 := SC.okM s40 rfl (fn := Tryz.f40) (by kernel_rfl) (by kernel_rfl)
noncomputable def s49 : SC (Tryz.f49.body.getD .skip) := SC.mk' (by simp only [Tryz.f49, go_sem]; rfl)
noncomputable def fun49 : Fun := ⟨[0, 17, 2, 5, 15, 4, 13, 16, 18, 40, 3], [2], [], 1, s49.1, [.cell 2 true 5, .tmp 3], 65⟩
theorem ok49 : FnM Tryz.prog 49 fun49 := SC.okM s49 rfl (fn := Tryz.f49) (by kernel_rfl) (by kernel_rfl)
noncomputable def s60 : SC (Tryz.f60.body.getD .skip) := SC.mk' (by simp only [Tryz.f60, go_sem]; rfl)
noncomputable def fun60 : Fun := ⟨[0, 1, 3, 2, 4, 6, 7, 12, 26, 32, 52, 56, 69, 73, 80, 9, 5], [2, 3, 4, 8], [], 2, s60.1, [.cell 4 true 26, .tmp 5], 195⟩
theorem ok60 : FnM Tryz.prog 60 fun60 := SC.okM s60 rfl (fn := Tryz.f60) (by kernel_rfl) (by kernel_rfl)
noncomputable def s67 : SC (Tryz.f67.body.getD .skip) := SC.mk' (by simp only [Tryz.f67, go_sem]; rfl)
noncomputable def fun67 : Fun := ⟨[0, 2, 4, 5, 12, 3], [2, 4], [], 1, s67.1, [.cell 2 true 8, .tmp 3], 65⟩
theorem ok67 : FnM Tryz.prog 67 fun67 := SC.okM s67 rfl (fn := Tryz.f67) (by kernel_rfl) (by kernel_rfl)
noncomputable def s91 : SC (Tryz.f91.body.getD .skip) := SC.mk' (by simp only [Tryz.f91, go_sem]; rfl)
noncomputable def fun91 : Fun := ⟨[0, 1, 2, 3, 7, 4, 6, 36], [3, 4, 6, 7], [], 3, s91.1, [.cell 6 true 63], 65⟩
theorem ok91 : FnM Tryz.prog 91 fun91 := SC.okM s91 rfl (fn := Tryz.f91) (by kernel_rfl) (by kernel_rfl)
noncomputable def s129 : SC (Tryz.f129.body.getD .skip) := SC.mk' (by simp only [Tryz.f129, go_sem]; rfl)
noncomputable def fun129 : Fun := ⟨[0, 3, 30, 32, 47, 57, 2], [], [], 1, s129.1, [.tmp 2], 585⟩
theorem ok129 : FnM Tryz.prog 129 fun129 := SC.okM s129 rfl (fn := Tryz.f129) (by kernel_rfl) (by kernel_rfl)
noncomputable def s130 : SC (Tryz.f130.body.getD .skip) := SC.mk' (by simp only [Tryz.f130, go_sem]; rfl)
noncomputable def fun130 : Fun := ⟨[0, 3, 8, 7, 4, 5, 22, 38, 6, 78, 92, 112, 145, 2], [5, 7], [], 1, s130.1, [.tmp 2], 585⟩
theorem ok130 : FnM Tryz.prog 130 fun130 := SC.okM s130 rfl (fn := Tryz.f130) (by kernel_rfl) (by kernel_rfl)
noncomputable def s134 : SC (Tryz.f134.body.getD .skip) := SC.mk' (by simp only [Tryz.f134, go_sem]; rfl)
noncomputable def fun134 : Fun := ⟨[0, 4, 3, 5, 12, 33, 52, 6, 71, 82, 2], [3, 5], [], 1, s134.1, [.tmp 2], 390⟩
theorem ok134 : FnM Tryz.prog 134 fun134 := SC.okM s134 rfl (fn := Tryz.f134) (by kernel_rfl) (by kernel_rfl)
noncomputable def s145 : SC (Tryz.f145.body.getD .skip) := SC.mk' (by simp only [Tryz.f145, go_sem]; rfl)
noncomputable def fun145 : Fun := ⟨[0, 2, 9, 3], [2], [], 1, s145.1, [.cell 2 true 2, .tmp 3], 0⟩
theorem ok145 : FnM Tryz.prog 145 fun145 := SC.okM s145 rfl (fn := Tryz.f145) (by kernel_rfl) (by kernel_rfl)
noncomputable def s152 : SC (Tryz.f152.body.getD .skip) := SC.mk' (by simp only [Tryz.f152, go_sem]; rfl)
noncomputable def fun152 : Fun := ⟨[0, 1, 2], [1, 2], [], 1, s152.1, [.cell 2 true 3], 0⟩
theorem ok152 : FnM Tryz.prog 152 fun152 := SC.okM s152 rfl (fn := Tryz.f152) (by kernel_rfl) (by kernel_rfl)
noncomputable def s154 : SC (Tryz.f154.body.getD .skip) := SC.mk' (by simp only [Tryz.f154, go_sem]; rfl)
noncomputable def fun154 : Fun := ⟨[0, 1, 2, 3, 4], [2, 3, 4], [], 2, s154.1, [.cell 4 true 63], 260⟩
theorem ok154 : FnM Tryz.prog 154 fun154 := SC.okM s154 rfl (fn := Tryz.f154) (by kernel_rfl) (by kernel_rfl)
noncomputable def s155 : SC (Tryz.f155.body.getD .skip) := SC.mk' (by simp only [Tryz.f155, go_sem]; rfl)
noncomputable def fun155 : Fun := ⟨[0, 1, 5, 2, 4], [2, 4, 5], [], 2, s155.1, [.cell 4 true 10], 0⟩
theorem ok155 : FnM Tryz.prog 155 fun155 := SC.okM s155 rfl (fn := Tryz.f155) (by kernel_rfl) (by kernel_rfl)
noncomputable def s160 : SC (Tryz.f160.body.getD .skip) := SC.mk' (by simp only [Tryz.f160, go_sem]; rfl)
noncomputable def fun160 : Fun := ⟨[0, 1, 10, 2, 3], [1], [], 1, s160.1, [.tmp 2, .tmp 3], 0⟩
theorem ok160 : FnM Tryz.prog 160 fun160 := SC.okM s160 rfl (fn := Tryz.f160) (by kernel_rfl) (by kernel_rfl)
noncomputable def s161 : SC (Tryz.f161.body.getD .skip) := SC.mk' (by simp only [Tryz.f161, go_sem]; rfl)
noncomputable def fun161 : Fun := ⟨[0, 1, 2, 4, 5, 3], [1, 2], [], 1, s161.1, [.cell 2 true 8, .tmp 3], 1170⟩
theorem ok161 : FnM Tryz.prog 161 fun161 := SC.okM s161 rfl (fn := Tryz.f161) (by kernel_rfl) (by kernel_rfl)
noncomputable def s168 : SC (Tryz.f168.body.getD .skip) := SC.mk' (by simp only [Tryz.f168, go_sem]; rfl)
noncomputable def fun168 : Fun := ⟨[0, 2], [], [], 1, s168.1, [.tmp 2], 0⟩
theorem ok168 : FnM Tryz.prog 168 fun168 := SC.okM s168 rfl (fn := Tryz.f168) (by kernel_rfl) (by kernel_rfl)
noncomputable def s196 : SC (Tryz.f196.body.getD .skip) := SC.mk' (by simp only [Tryz.f196, go_sem]; rfl)
noncomputable def fun196 : Fun := ⟨[0, 5, 8, 3, 6, 7, 9, 27, 2], [5], [], 1, s196.1, [.tmp 2], 0⟩
theorem ok196 : FnM Tryz.prog 196 fun196 := SC.okM s196 rfl (fn := Tryz.f196) (by kernel_rfl) (by kernel_rfl)
noncomputable def s200 : SC (Tryz.f200.body.getD .skip) := SC.mk' (by simp only [Tryz.f200, go_sem]; rfl)
noncomputable def fun200 : Fun := ⟨[0, 1, 8, 5, 7, 9, 16, 4], [], [], 2, s200.1, [.tmp 4], 65⟩
theorem ok200 : FnM Tryz.prog 200 fun200 := SC.okM s200 rfl (fn := Tryz.f200) (by kernel_rfl) (by kernel_rfl)
noncomputable def s216 : SC (Tryz.f216.body.getD .skip) := SC.mk' (by simp only [Tryz.f216, go_sem]; rfl)
noncomputable def fun216 : Fun := ⟨[0, 1, 2, 3, 4, 8, 7, 10, 11, 17, 23, 39, 9], [4, 7, 8], [], 4, s216.1, [.cell 8 true 11, .tmp 9], 455⟩
theorem ok216 : FnM Tryz.prog 216 fun216 := SC.okM s216 rfl (fn := Tryz.f216) (by kernel_rfl) (by kernel_rfl)
noncomputable def s220 : SC (Tryz.f220.body.getD .skip) := SC.mk' (by simp only [Tryz.f220, go_sem]; rfl)
noncomputable def fun220 : Fun := ⟨[0, 1, 2, 3, 8, 11, 4, 5, 10, 12, 18, 27, 43, 9], [4, 5, 8, 11], [], 4, s220.1, [.cell 8 true 4, .tmp 9], 650⟩
theorem ok220 : FnM Tryz.prog 220 fun220 := SC.okM s220 rfl (fn := Tryz.f220) (by kernel_rfl) (by kernel_rfl)
noncomputable def s253 : SC (Tryz.f253.body.getD .skip) := SC.mk' (by simp only [Tryz.f253, go_sem]; rfl)
noncomputable def fun253 : Fun := ⟨[0, 1, 2, 4], [2], [], 2, s253.1, [.tmp 4], 0⟩
theorem ok253 : FnM Tryz.prog 253 fun253 := SC.okM s253 rfl (fn := Tryz.f253) (by kernel_rfl) (by kernel_rfl)
noncomputable def s271 : SC (Tryz.f271.body.getD .skip) := SC.mk' (by simp only [Tryz.f271, go_sem]; rfl)
noncomputable def fun271 : Fun := ⟨[0, 1, 2, 3, 6, 22, 27, 7, 8], [3, 6], [], 3, s271.1, [.cell 6 true 11, .tmp 7, .tmp 8], 65⟩
theorem ok271 : FnM Tryz.prog 271 fun271 := SC.okM s271 rfl (fn := Tryz.f271) (by kernel_rfl) (by kernel_rfl)
noncomputable def s273 : SC (Tryz.f273.body.getD .skip) := SC.mk' (by simp only [Tryz.f273, go_sem]; rfl)
noncomputable def fun273 : Fun := ⟨[0, 1, 2, 4, 9, 5], [2, 4], [], 2, s273.1, [.cell 4 true 4, .tmp 5], 65⟩
theorem ok273 : FnM Tryz.prog 273 fun273 := SC.okM s273 rfl (fn := Tryz.f273) (by kernel_rfl) (by kernel_rfl)
noncomputable def s300 : SC (Tryz.f300.body.getD .skip) := SC.mk' (by simp only [Tryz.f300, go_sem]; rfl)
noncomputable def fun300 : Fun := ⟨[0, 1, 2, 3, 24, 9, 45, 6, 7, 22, 43, 11, 19, 23, 25, 37, 44, 46, 53], [3, 9, 11], [], 3, s300.1, [.tmp 6, .tmp 7], 585⟩
theorem ok300 : FnM Tryz.prog 300 fun300 := SC.okM s300 rfl (fn := Tryz.f300) (by kernel_rfl) (by kernel_rfl)
noncomputable def s302 : SC (Tryz.f302.body.getD .skip) := SC.mk' (by simp only [Tryz.f302, go_sem]; rfl)
noncomputable def fun302 : Fun := ⟨[0, 1, 2, 6], [], [], 3, s302.1, [.tmp 6], 0⟩
theorem ok302 : FnM Tryz.prog 302 fun302 := SC.okM s302 rfl (fn := Tryz.f302) (by kernel_rfl) (by kernel_rfl)
noncomputable def s310 : SC (Tryz.f310.body.getD .skip) := SC.mk' (by simp only [Tryz.f310, go_sem]; rfl)
noncomputable def fun310 : Fun := ⟨[0, 1, 2, 3, 4, 8, 18, 35, 11, 45, 48, 9, 10], [4, 8], [], 4, s310.1, [.cell 8 true 11, .tmp 9, .tmp 10], 65⟩
theorem ok310 : FnM Tryz.prog 310 fun310 := SC.okM s310 rfl (fn := Tryz.f310) (by kernel_rfl) (by kernel_rfl)
noncomputable def s326 : SC (Tryz.f326.body.getD .skip) := SC.mk' (by simp only [Tryz.f326, go_sem]; rfl)
noncomputable def fun326 : Fun := ⟨[0, 2], [], [], 1, s326.1, [.tmp 2], 0⟩
theorem ok326 : FnM Tryz.prog 326 fun326 := SC.okM s326 rfl (fn := Tryz.f326) (by kernel_rfl) (by kernel_rfl)
noncomputable def s333 : SC (Tryz.f333.body.getD .skip) := SC.mk' (by simp only [Tryz.f333, go_sem]; rfl)
noncomputable def fun333 : Fun := ⟨[0, 13, 1, 3, 11, 5, 12, 14, 2], [1, 5], [], 1, s333.1, [.tmp 2], 260⟩
theorem ok333 : FnM Tryz.prog 333 fun333 := SC.okM s333 rfl (fn := Tryz.f333) (by kernel_rfl) (by kernel_rfl)
noncomputable def s341 : SC (Tryz.f341.body.getD .skip) := SC.mk' (by simp only [Tryz.f341, go_sem]; rfl)
noncomputable def fun341 : Fun := ⟨[0, 1, 2, 3, 4], [2], [], 2, s341.1, [.tmp 4], 845⟩
theorem ok341 : FnM Tryz.prog 341 fun341 := SC.okM s341 rfl (fn := Tryz.f341) (by kernel_rfl) (by kernel_rfl)
noncomputable def s349 : SC (Tryz.f349.body.getD .skip) := SC.mk' (by simp only [Tryz.f349, go_sem]; rfl)
noncomputable def fun349 : Fun := ⟨[0, 1, 2], [1, 2], [], 1, s349.1, [.cell 2 true 3], 65⟩
theorem ok349 : FnM Tryz.prog 349 fun349 := SC.okM s349 rfl (fn := Tryz.f349) (by kernel_rfl) (by kernel_rfl)
noncomputable def s350 : SC (Tryz.f350.body.getD .skip) := SC.mk' (by simp only [Tryz.f350, go_sem]; rfl)
noncomputable def fun350 : Fun := ⟨[0, 1, 2, 4], [2], [], 2, s350.1, [.tmp 4], 0⟩
theorem ok350 : FnM Tryz.prog 350 fun350 := SC.okM s350 rfl (fn := Tryz.f350) (by kernel_rfl) (by kernel_rfl)
noncomputable def s356 : SC (Tryz.f356.body.getD .skip) := SC.mk' (by simp only [Tryz.f356, go_sem]; rfl)
noncomputable def fun356 : Fun := ⟨[0, 1, 2, 3, 15, 23, 6], [3], [], 3, s356.1, [.tmp 6], 65⟩
theorem ok356 : FnM Tryz.prog 356 fun356 := SC.okM s356 rfl (fn := Tryz.f356) (by kernel_rfl) (by kernel_rfl)
noncomputable def s364 : SC (Tryz.f364.body.getD .skip) := SC.mk' (by simp only [Tryz.f364, go_sem]; rfl)
noncomputable def fun364 : Fun := ⟨[0, 1, 2, 16, 7, 6], [], [], 3, s364.1, [.tmp 6], 0⟩
theorem ok364 : FnM Tryz.prog 364 fun364 := SC.okM s364 rfl (fn := Tryz.f364) (by kernel_rfl) (by kernel_rfl)
noncomputable def s397 : SC (Tryz.f397.body.getD .skip) := SC.mk' (by simp only [Tryz.f397, go_sem]; rfl)
noncomputable def fun397 : Fun := ⟨[0, 1, 2, 4], [2], [], 2, s397.1, [.tmp 4], 0⟩
theorem ok397 : FnM Tryz.prog 397 fun397 := SC.okM s397 rfl (fn := Tryz.f397) (by kernel_rfl) (by kernel_rfl)
end Go.M
