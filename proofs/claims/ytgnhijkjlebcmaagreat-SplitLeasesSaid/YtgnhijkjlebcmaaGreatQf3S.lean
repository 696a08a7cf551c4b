/-
  The codes of functions, as the machine takes them.
  No condition: definitions and lemmas.
-/
import Derived.Test.YtgnhijkjlebcmaaGreatQtyS
set_option linter.all false
set_option maxRecDepth 100000
set_option maxHeartbeats 4000000
namespace Go.M
open Go Go.Proofs
open Go.Eng (SOp SOper SCode sizeP aggP zerosOf bytesP zeroVal stripCode stripOps stripOper strip stripParts kindsOf kinds2)
noncomputable def s3 : SC (Tryz.f3.body.getD .skip) := SC.mk' (by simp only [Tryz.f3, go_sem]; rfl)
noncomputable def fun3 : Fun := ⟨[0, 5, 8, 17, 4, 10, 16, 3, 12, 19, 7, 9, 13, 20, 21, 35, 72, 11, 77, 15, 112, 129, 134, 155, 23, 168, 181, 2], [4, 5, 8, 12, 17, 20, 21], [], 1, s3.1, [.tmp 2], 1495⟩
theorem ok3 : FnM Tryz.prog 3 fun3 := SC.okM s3 rfl (fn := Tryz.f3) (by kernel_rfl) (by kernel_rfl)
noncomputable def s33 : SC (Tryz.f33.body.getD .skip) := SC.mk' (by simp only [Tryz.f33, go_sem]; rfl)
noncomputable def fun33 : Fun := ⟨[0, 4, 1, 3, 9, 18, 2], [1], [], 1, s33.1, [.tmp 2], 0⟩
theorem ok33 : FnM Tryz.prog 33 fun33 := SC.okM s33 rfl (fn := Tryz.f33) (by kernel_rfl) (by kernel_rfl)
noncomputable def s38 : SC (Tryz.f38.body.getD .skip) := SC.mk' (by simp only [Tryz.f38, go_sem]; rfl)
noncomputable def fun38 : Fun := ⟨[0, 1, 2, 11, 5, 6, 63, 86, 3, 38, 109, 129, 12, 23, 28, 37, 62, 76, 85, 108, 116, 117, 128, 4], [2, 3], [], 2, s38.1, [.tmp 4], 65⟩
theorem ok38 : FnM Tryz.prog 38 fun38 := SC.okM s38 rfl (fn := Tryz.f38) (by kernel_rfl) (by kernel_rfl)
noncomputable def s61 : SC (Tryz.f61.body.getD .skip) := SC.mk' (by simp only [Tryz.f61, go_sem]; rfl)
noncomputable def fun61 : Fun := ⟨[0, 1, 2, 6], [], [], 3, s61.1, [.tmp 6], 0⟩
theorem ok61 : FnM Tryz.prog 61 fun61 := SC.okM s61 rfl (fn := Tryz.f61) (by kernel_rfl) (by kernel_rfl)
noncomputable def s72 : SC (Tryz.f72.body.getD .skip) := SC.mk' (by simp only [Tryz.f72, go_sem]; rfl)
noncomputable def fun72 : Fun := ⟨[0, 6, 1, 5, 8, 2, 4, 7, 9, 39, 61, 3], [1, 2, 6], [71, 8388616], 1, s72.1, [.cell 2 true 6, .tmp 3], 1235⟩
theorem ok72 : FnM Tryz.prog 72 fun72 := SC.okM s72 rfl (fn := Tryz.f72) (by kernel_rfl) (by kernel_rfl)
noncomputable def s77 : SC (Tryz.f77.body.getD .skip) := SC.mk' (by simp only [Tryz.f77, go_sem]; rfl)
noncomputable def fun77 : Fun := ⟨[0, 1, 2], [1, 2], [], 1, s77.1, [.cell 2 true 3], 0⟩
theorem ok77 : FnM Tryz.prog 77 fun77 := SC.okM s77 rfl (fn := Tryz.f77) (by kernel_rfl) (by kernel_rfl)
noncomputable def s107 : SC (Tryz.f107.body.getD .skip) := SC.mk' (by simp only [Tryz.f107, go_sem]; rfl)
noncomputable def fun107 : Fun := ⟨[0, 2, 9, 3], [2], [], 1, s107.1, [.cell 2 true 3, .tmp 3], 0⟩
theorem ok107 : FnM Tryz.prog 107 fun107 := SC.okM s107 rfl (fn := Tryz.f107) (by kernel_rfl) (by kernel_rfl)
noncomputable def s108 : SC (Tryz.f108.body.getD .skip) := SC.mk' (by simp only [Tryz.f108, go_sem]; rfl)
noncomputable def fun108 : Fun := ⟨[0, 1, 4], [], [], 2, s108.1, [.tmp 4], 0⟩
theorem ok108 : FnM Tryz.prog 108 fun108 := SC.okM s108 rfl (fn := Tryz.f108) (by kernel_rfl) (by kernel_rfl)
noncomputable def s122 : SC (Tryz.f122.body.getD .skip) := SC.mk' (by simp only [Tryz.f122, go_sem]; rfl)
noncomputable def fun122 : Fun := ⟨[0, 1, 10, 2, 3], [1], [], 1, s122.1, [.tmp 2, .tmp 3], 0⟩
theorem ok122 : FnM Tryz.prog 122 fun122 := SC.okM s122 rfl (fn := Tryz.f122) (by kernel_rfl) (by kernel_rfl)
noncomputable def s124 : SC (Tryz.f124.body.getD .skip) := SC.mk' (by simp only [Tryz.f124, go_sem]; rfl)
noncomputable def fun124 : Fun := ⟨[0, 1, 2, 4, 5, 6, 10, 23, 35, 49], [2, 4, 5], [], 2, s124.1, [.cell 4 true 8, .cell 5 true 8, .tmp 6], 1170⟩
theorem ok124 : FnM Tryz.prog 124 fun124 := SC.okM s124 rfl (fn := Tryz.f124) (by kernel_rfl) (by kernel_rfl)
noncomputable def s125 : SC (Tryz.f125.body.getD .skip) := SC.mk' (by simp only [Tryz.f125, go_sem]; rfl)
noncomputable def fun125 : Fun := ⟨[0, 13, 1, 3, 11, 5, 12, 14, 2], [1, 5], [], 1, s125.1, [.tmp 2], 260⟩
theorem ok125 : FnM Tryz.prog 125 fun125 := SC.okM s125 rfl (fn := Tryz.f125) (by kernel_rfl) (by kernel_rfl)
noncomputable def s127 : SC (Tryz.f127.body.getD .skip) := SC.mk' (by simp only [Tryz.f127, go_sem]; rfl)
noncomputable def fun127 : Fun := ⟨[0, 1, 2, 8, 3], [1, 2], [], 1, s127.1, [.cell 2 true 26, .tmp 3], 130⟩
theorem ok127 : FnM Tryz.prog 127 fun127 := SC.okM s127 rfl (fn := Tryz.f127) (by kernel_rfl) (by kernel_rfl)
noncomputable def s128 : SC (Tryz.f128.body.getD .skip) := SC.mk' (by simp only [Tryz.f128, go_sem]; rfl)
noncomputable def fun128 : Fun := ⟨[0, 1, 2, 3, 7, 4, 6, 36], [3, 4, 6, 7], [], 3, s128.1, [.cell 6 true 63], 65⟩
theorem ok128 : FnM Tryz.prog 128 fun128 := SC.okM s128 rfl (fn := Tryz.f128) (by kernel_rfl) (by kernel_rfl)
noncomputable def s131 : SC (Tryz.f131.body.getD .skip) := SC.mk' (by simp only [Tryz.f131, go_sem]; rfl)
noncomputable def fun131 : Fun := ⟨[0, 1, 3, 2, 4, 6, 7, 12, 26, 32, 52, 56, 69, 73, 80, 9, 5], [2, 3, 4, 8], [], 2, s131.1, [.cell 4 true 26, .tmp 5], 195⟩
theorem ok131 : FnM Tryz.prog 131 fun131 := SC.okM s131 rfl (fn := Tryz.f131) (by kernel_rfl) (by kernel_rfl)
noncomputable def s148 : SC (Tryz.f148.body.getD .skip) := SC.mk' (by simp only [Tryz.f148, go_sem]; rfl)
noncomputable def fun148 : Fun := ⟨[0, 1, 3, 39, 37, 5, 9, 26, 31, 38, 40, 4, 50, 54, 2], [1, 5], [], 1, s148.1, [.tmp 2], 260⟩
theorem ok148 : FnM Tryz.prog 148 fun148 := SC.okM s148 rfl (fn := Tryz.f148) (by kernel_rfl) (by kernel_rfl)
noncomputable def s179 : SC (Tryz.f179.body.getD .skip) := SC.mk' (by simp only [Tryz.f179, go_sem]; rfl)
noncomputable def fun179 : Fun := ⟨[0, 4, 2], [], [], 1, s179.1, [.tmp 2], 0⟩
theorem ok179 : FnM Tryz.prog 179 fun179 := SC.okM s179 rfl (fn := Tryz.f179) (by kernel_rfl) (by kernel_rfl)
noncomputable def s208 : SC (Tryz.f208.body.getD .skip) := SC.mk' (by simp only [Tryz.f208, go_sem]; rfl)
noncomputable def fun208 : Fun := ⟨[0, 2], [], [], 1, s208.1, [.tmp 2], 0⟩
theorem ok208 : FnM Tryz.prog 208 fun208 := SC.okM s208 rfl (fn := Tryz.f208) (by kernel_rfl) (by kernel_rfl)
noncomputable def s210 : SC (Tryz.f210.body.getD .skip) := SC.mk' (by simp only [Tryz.f210, go_sem]; rfl)
noncomputable def fun210 : Fun := ⟨[0, 1, 2, 3, 9, 5, 4, 23, 10, 8], [4, 5, 9], [], 4, s210.1, [.tmp 8], 520⟩
theorem ok210 : FnM Tryz.prog 210 fun210 := SC.okM s210 rfl (fn := Tryz.f210) (by kernel_rfl) (by kernel_rfl)
noncomputable def s213 : SC (Tryz.f213.body.getD .skip) := SC.mk' (by simp only [Tryz.f213, go_sem]; rfl)
noncomputable def fun213 : Fun := ⟨[0, 1, 2, 3, 5, 6, 10, 15, 22, 28, 4], [2, 3], [], 2, s213.1, [.tmp 4], 195⟩
theorem ok213 : FnM Tryz.prog 213 fun213 := SC.okM s213 rfl (fn := Tryz.f213) (by kernel_rfl) (by kernel_rfl)
noncomputable def s236 : SC (Tryz.f236.body.getD .skip) := SC.mk' (by simp only [Tryz.f236, go_sem]; rfl)
noncomputable def fun236 : Fun := ⟨[0, 1, 2, 3, 6, 35, 7], [3, 6], [], 3, s236.1, [.cell 6 true 2, .tmp 7], 0⟩
theorem ok236 : FnM Tryz.prog 236 fun236 := SC.okM s236 rfl (fn := Tryz.f236) (by kernel_rfl) (by kernel_rfl)
noncomputable def s268 : SC (Tryz.f268.body.getD .skip) := SC.mk' (by simp only [Tryz.f268, go_sem]; rfl)
noncomputable def fun268 : Fun := ⟨[0, 1, 2], [], [], 1, s268.1, [.tmp 2], 520⟩
theorem ok268 : FnM Tryz.prog 268 fun268 := SC.okM s268 rfl (fn := Tryz.f268) (by kernel_rfl) (by kernel_rfl)
noncomputable def s277 : SC (Tryz.f277.body.getD .skip) := SC.mk' (by simp only [Tryz.f277, go_sem]; rfl)
noncomputable def fun277 : Fun := ⟨[0, 2], [], [], 1, s277.1, [.tmp 2], 0⟩
theorem ok277 : FnM Tryz.prog 277 fun277 := SC.okM s277 rfl (fn := Tryz.f277) (by kernel_rfl) (by kernel_rfl)
noncomputable def s280 : SC (Tryz.f280.body.getD .skip) := SC.mk' (by simp only [Tryz.f280, go_sem]; rfl)
noncomputable def fun280 : Fun := ⟨[0, 1, 2, 3, 4, 8, 7, 10, 11, 17, 23, 39, 9], [4, 7, 8], [], 4, s280.1, [.cell 8 true 11, .tmp 9], 455⟩
theorem ok280 : FnM Tryz.prog 280 fun280 := SC.okM s280 rfl (fn := Tryz.f280) (by kernel_rfl) (by kernel_rfl)
noncomputable def s284 : SC (Tryz.f284.body.getD .skip) := SC.mk' (by simp only [Tryz.f284, go_sem]; rfl)
noncomputable def fun284 : Fun := ⟨[0, 1, 8, 56, 3, 4, 5, 6, 54, 13, 19, 23, 36, 37, 44, 55, 57, 67, 79, 2], [1, 8], [], 1, s284.1, [.tmp 2], 390⟩
theorem ok284 : FnM Tryz.prog 284 fun284 := SC.okM s284 rfl (fn := Tryz.f284) (by kernel_rfl) (by kernel_rfl)
noncomputable def s297 : SC (Tryz.f297.body.getD .skip) := SC.mk' (by simp only [Tryz.f297, go_sem]; rfl)
noncomputable def fun297 : Fun := ⟨[0, 1, 2, 3, 6, 21, 27, 7], [3, 6], [], 3, s297.1, [.cell 6 true 11, .tmp 7], 65⟩
theorem ok297 : FnM Tryz.prog 297 fun297 := SC.okM s297 rfl (fn := Tryz.f297) (by kernel_rfl) (by kernel_rfl)
noncomputable def s329 : SC (Tryz.f329.body.getD .skip) := SC.mk' (by simp only [Tryz.f329, go_sem]; rfl)
noncomputable def fun329 : Fun := ⟨[0, 1, 8, 5, 7, 9, 16, 4], [], [], 2, s329.1, [.tmp 4], 65⟩
theorem ok329 : FnM Tryz.prog 329 fun329 := SC.okM s329 rfl (fn := Tryz.f329) (by kernel_rfl) (by kernel_rfl)
noncomputable def s330 : SC (Tryz.f330.body.getD .skip) := SC.mk' (by simp only [Tryz.f330, go_sem]; rfl)
noncomputable def fun330 : Fun := ⟨[0, 1, 2, 3], [2], [], 2, s330.1, [.tmp 3], 0⟩
theorem ok330 : FnM Tryz.prog 330 fun330 := SC.okM s330 rfl (fn := Tryz.f330) (by kernel_rfl) (by kernel_rfl)
noncomputable def s355 : SC (Tryz.f355.body.getD .skip) := SC.mk' (by simp only [Tryz.f355, go_sem]; rfl)
noncomputable def fun355 : Fun := ⟨[0, 2], [], [], 1, s355.1, [.tmp 2], 0⟩
theorem ok355 : FnM Tryz.prog 355 fun355 := SC.okM s355 rfl (fn := Tryz.f355) (by kernel_rfl) (by kernel_rfl)
noncomputable def s368 : SC (Tryz.f368.body.getD .skip) := SC.mk' (by simp only [Tryz.f368, go_sem]; rfl)
noncomputable def fun368 : Fun := ⟨[0, 1, 4, 14, 12, 3, 5, 6, 10, 13, 15, 23, 25, 30, 35, 57, 61, 2], [1, 4], [], 1, s368.1, [.tmp 2], 325⟩
theorem ok368 : FnM Tryz.prog 368 fun368 := SC.okM s368 rfl (fn := Tryz.f368) (by kernel_rfl) (by kernel_rfl)
noncomputable def s399 : SC (Tryz.f399.body.getD .skip) := SC.mk' (by simp only [Tryz.f399, go_sem]; rfl)
noncomputable def fun399 : Fun := ⟨[0, 1, 3, 6, 10, 12, 16, 20, 4, 5], [3], [], 2, s399.1, [.tmp 4, .tmp 5], 325⟩
theorem ok399 : FnM Tryz.prog 399 fun399 := SC.okM s399 rfl (fn := Tryz.f399) (by kernel_rfl) (by kernel_rfl)
noncomputable def s403 : SC (Tryz.f403.body.getD .skip) := SC.mk' (by simp only [Tryz.f403, go_sem]; rfl)
noncomputable def fun403 : Fun := ⟨[0, 1, 2, 3, 6], [3], [], 3, s403.1, [.tmp 6], 65⟩
theorem ok403 : FnM Tryz.prog 403 fun403 := SC.okM s403 rfl (fn := Tryz.f403) (by kernel_rfl) (by kernel_rfl)
noncomputable def s408 : SC (Tryz.f408.body.getD .skip) := SC.mk' (by simp only [Tryz.f408, go_sem]; rfl)
noncomputable def fun408 : Fun := ⟨[0, 1, 2, 3, 6, 9, 10, 23, 26, 7, 8], [3, 6], [], 3, s408.1, [.cell 6 true 11, .tmp 7, .tmp 8], 130⟩
theorem ok408 : FnM Tryz.prog 408 fun408 := SC.okM s408 rfl (fn := Tryz.f408) (by kernel_rfl) (by kernel_rfl)
noncomputable def s416 : SC (Tryz.f416.body.getD .skip) := SC.mk' (by simp only [Tryz.f416, go_sem]; rfl)
noncomputable def fun416 : Fun := ⟨[0, 1, 15, 4, 13, 11, 14, 16, 28, 2], [1, 4], [], 1, s416.1, [.tmp 2], 130⟩
theorem ok416 : FnM Tryz.prog 416 fun416 := SC.okM s416 rfl (fn := Tryz.f416) (by kernel_rfl) (by kernel_rfl)
noncomputable def s424 : SC (Tryz.f424.body.getD .skip) := SC.mk' (by simp only [Tryz.f424, go_sem]; rfl)
noncomputable def fun424 : Fun := ⟨[0, 1, 6, 5, 11, 12, 13, 16, 19, 4], [], [], 2, s424.1, [.tmp 4], 65⟩
theorem ok424 : FnM Tryz.prog 424 fun424 := SC.okM s424 rfl (fn := Tryz.f424) (by kernel_rfl) (by kernel_rfl)
noncomputable def s425 : SC (Tryz.f425.body.getD .skip) := SC.mk' (by simp only [Tryz.f425, go_sem]; rfl)
noncomputable def fun425 : Fun := ⟨[0, 1, 3, 4], [], [], 2, s425.1, [.tmp 4], 195⟩
theorem ok425 : FnM Tryz.prog 425 fun425 := SC.okM s425 rfl (fn := Tryz.f425) (by kernel_rfl) (by kernel_rfl)
end Go.M
