/-
  The codes of functions, as the machine takes them.
  No condition: definitions and lemmas.
-/
import Derived.Test.YtgnhijkjlebcmaaGreatQtyM
set_option linter.all false
set_option maxRecDepth 100000
set_option maxHeartbeats 4000000
namespace Go.M
open Go Go.Proofs
open Go.Eng (SOp SOper SCode sizeP aggP zerosOf bytesP zeroVal stripCode stripOps stripOper strip stripParts kindsOf kinds2)
noncomputable def s10 : SC (Tryz.f10.body.getD .skip) := SC.mk' (by simp only [Tryz.f10, go_sem]; rfl)
noncomputable def fun10 : Fun := ⟨[0, 1, 2, 4, 7, 8, 9, 3, 19, 36, 5, 6], [2, 3, 4, 8], [], 2, s10.1, [.cell 4 true 23, .tmp 5, .tmp 6], 260⟩
theorem ok10 : FnM Tryz.prog 10 fun10 := SC.okM s10 rfl (fn := Tryz.f10) (by kernel_rfl) (by kernel_rfl)
noncomputable def s11 : SC (Tryz.f11.body.getD .skip) := SC.mk' (by simp only [Tryz.f11, go_sem]; rfl)
noncomputable def fun11 : Fun := ⟨[0, 1, 6, 8, 2, 5, 7, 9, 10, 21, 32, 45, 3, 4], [1, 2, 9], [], 1, s11.1, [.cell 2 true 23, .tmp 3, .tmp 4], 1105⟩
theorem ok11 : FnM Tryz.prog 11 fun11 := SC.okM s11 rfl (fn := Tryz.f11) (by kernel_rfl) (by kernel_rfl)
noncomputable def s18 : SC (Tryz.f18.body.getD .skip) := SC.mk' (by simp only [Tryz.f18, go_sem]; rfl)
noncomputable def fun18 : Fun := ⟨[0, 1, 2, 3, 12, 15, 4, 17, 8, 14, 16, 5, 6, 33, 18, 19, 53, 9, 10, 11], [4, 5, 6, 8, 12, 16, 17], [], 4, s18.1, [.cell 8 true 11, .tmp 9, .tmp 10, .tmp 11], 1365⟩
theorem ok18 : FnM Tryz.prog 18 fun18 := SC.okM s18 rfl (fn := Tryz.f18) (by kernel_rfl) (by kernel_rfl)
noncomputable def s24 : SC (Tryz.f24.body.getD .skip) := SC.mk' (by simp only [Tryz.f24, go_sem]; rfl)
noncomputable def fun24 : Fun := ⟨[0, 1, 2, 5, 15, 35, 4], [2], [], 2, s24.1, [.tmp 4], 130⟩
theorem ok24 : FnM Tryz.prog 24 fun24 := SC.okM s24 rfl (fn := Tryz.f24) (by kernel_rfl) (by kernel_rfl)
noncomputable def s33 : SC (Tryz.f33.body.getD .skip) := SC.mk' (by simp only [Tryz.f33, go_sem]; rfl)
noncomputable def fun33 : Fun := ⟨[0, 4, 1, 3, 9, 18, 2], [1], [], 1, s33.1, [.tmp 2], 0⟩
theorem ok33 : FnM Tryz.prog 33 fun33 := SC.okM s33 rfl (fn := Tryz.f33) (by kernel_rfl) (by kernel_rfl)
noncomputable def s39 : SC (Tryz.f39.body.getD .skip) := SC.mk' (by simp only [Tryz.f39, go_sem]; rfl)
noncomputable def fun39 : Fun := ⟨[0, 1, 2, 3, 8, 20, 6], [3], [], 3, s39.1, [.tmp 6], 0⟩
theorem ok39 : FnM Tryz.prog 39 fun39 := SC.okM s39 rfl (fn := Tryz.f39) (by kernel_rfl) (by kernel_rfl)
noncomputable def s44 : SC (Tryz.f44.body.getD .skip) := SC.mk' (by simp only [Tryz.f44, go_sem]; rfl)
noncomputable def fun44 : Fun := ⟨[0, 1, 2, 3, 6], [3, 6], [], 3, s44.1, [.cell 6 true 63], 130⟩
theorem ok44 : FnM Tryz.prog 44 fun44 := SC.okM s44 rfl (fn := Tryz.f44) (by kernel_rfl) (by kernel_rfl)
noncomputable def s90 : SC (Tryz.f90.body.getD .skip) := SC.mk' (by simp only [Tryz.f90, go_sem]; rfl)
noncomputable def fun90 : Fun := ⟨[0, 1, 2, 9, 8, 27, 33, 6, 7], [], [], 3, s90.1, [.tmp 6, .tmp 7], 0⟩
theorem ok90 : FnM Tryz.prog 90 fun90 := SC.okM s90 rfl (fn := Tryz.f90) (by kernel_rfl) (by kernel_rfl)
noncomputable def s95 : SC (Tryz.f95.body.getD .skip) := SC.mk' (by simp only [Tryz.f95, go_sem]; rfl)
noncomputable def fun95 : Fun := ⟨[0, 1, 2], [1, 2], [], 1, s95.1, [.cell 2 true 3], 0⟩
theorem ok95 : FnM Tryz.prog 95 fun95 := SC.okM s95 rfl (fn := Tryz.f95) (by kernel_rfl) (by kernel_rfl)
noncomputable def s108 : SC (Tryz.f108.body.getD .skip) := SC.mk' (by simp only [Tryz.f108, go_sem]; rfl)
noncomputable def fun108 : Fun := ⟨[0, 1, 4], [], [], 2, s108.1, [.tmp 4], 0⟩
theorem ok108 : FnM Tryz.prog 108 fun108 := SC.okM s108 rfl (fn := Tryz.f108) (by kernel_rfl) (by kernel_rfl)
noncomputable def s109 : SC (Tryz.f109.body.getD .skip) := SC.mk' (by simp only [Tryz.f109, go_sem]; rfl)
noncomputable def fun109 : Fun := ⟨[0, 1, 2, 4, 6, 7, 3, 15, 32, 11, 10, 12, 14, 18, 19, 136, 24, 33, 43, 58, 13, 72, 80, 95, 16, 17, 115, 122, 20, 132, 137, 146, 8, 9], [3, 4, 6, 7, 11, 12, 15, 19], [], 3, s109.1, [.cell 6 true 11, .cell 7 true 63, .tmp 8, .tmp 9], 910⟩
theorem ok109 : FnM Tryz.prog 109 fun109 := SC.okM s109 rfl (fn := Tryz.f109) (by kernel_rfl) (by kernel_rfl)
noncomputable def s127 : SC (Tryz.f127.body.getD .skip) := SC.mk' (by simp only [Tryz.f127, go_sem]; rfl)
noncomputable def fun127 : Fun := ⟨[0, 1, 2, 8, 3], [1, 2], [], 1, s127.1, [.cell 2 true 26, .tmp 3], 130⟩
theorem ok127 : FnM Tryz.prog 127 fun127 := SC.okM s127 rfl (fn := Tryz.f127) (by kernel_rfl) (by kernel_rfl)
noncomputable def s137 : SC (Tryz.f137.body.getD .skip) := SC.mk' (by simp only [Tryz.f137, go_sem]; rfl)
noncomputable def fun137 : Fun := ⟨[0, 1, 2, 3, 4, 6, 11, 5], [2, 3, 4], [], 2, s137.1, [.cell 4 true 3, .tmp 5], 260⟩
theorem ok137 : FnM Tryz.prog 137 fun137 := SC.okM s137 rfl (fn := Tryz.f137) (by kernel_rfl) (by kernel_rfl)
noncomputable def s141 : SC (Tryz.f141.body.getD .skip) := SC.mk' (by simp only [Tryz.f141, go_sem]; rfl)
noncomputable def fun141 : Fun := ⟨[0, 1, 10, 2, 3], [1], [], 1, s141.1, [.tmp 2, .tmp 3], 0⟩
theorem ok141 : FnM Tryz.prog 141 fun141 := SC.okM s141 rfl (fn := Tryz.f141) (by kernel_rfl) (by kernel_rfl)
noncomputable def s162 : SC (Tryz.f162.body.getD .skip) := SC.mk' (by simp only [Tryz.f162, go_sem]; rfl)
noncomputable def fun162 : Fun := ⟨[0, 1, 4, 5, 6, 2, 7, 9, 25, 37, 52, 3], [1, 2, 4, 5, 6, 7, 9], [73, 78], 1, s162.1, [.cell 2 true 63, .tmp 3], 650⟩
theorem ok162 : FnM Tryz.prog 162 fun162 := SC.okM s162 rfl (fn := Tryz.f162) (by kernel_rfl) (by kernel_rfl)
noncomputable def s189 : SC (Tryz.f189.body.getD .skip) := SC.mk' (by simp only [Tryz.f189, go_sem]; rfl)
noncomputable def fun189 : Fun := ⟨[0, 1, 5, 2], [1], [], 1, s189.1, [.tmp 2], 195⟩
theorem ok189 : FnM Tryz.prog 189 fun189 := SC.okM s189 rfl (fn := Tryz.f189) (by kernel_rfl) (by kernel_rfl)
noncomputable def s191 : SC (Tryz.f191.body.getD .skip) := SC.mk' (by simp only [Tryz.f191, go_sem]; rfl)
noncomputable def fun191 : Fun := ⟨[0, 1, 2, 4, 5, 13, 3], [1, 2, 4], [], 1, s191.1, [.cell 2 true 26, .tmp 3], 65⟩
theorem ok191 : FnM Tryz.prog 191 fun191 := SC.okM s191 rfl (fn := Tryz.f191) (by kernel_rfl) (by kernel_rfl)
noncomputable def s214 : SC (Tryz.f214.body.getD .skip) := SC.mk' (by simp only [Tryz.f214, go_sem]; rfl)
noncomputable def fun214 : Fun := ⟨[0, 1, 2, 7, 8, 3, 6, 20], [3, 6, 7], [], 3, s214.1, [.cell 6 true 3], 0⟩
theorem ok214 : FnM Tryz.prog 214 fun214 := SC.okM s214 rfl (fn := Tryz.f214) (by kernel_rfl) (by kernel_rfl)
noncomputable def s227 : SC (Tryz.f227.body.getD .skip) := SC.mk' (by simp only [Tryz.f227, go_sem]; rfl)
noncomputable def fun227 : Fun := ⟨[0, 1, 2, 6], [], [], 3, s227.1, [.tmp 6], 0⟩
theorem ok227 : FnM Tryz.prog 227 fun227 := SC.okM s227 rfl (fn := Tryz.f227) (by kernel_rfl) (by kernel_rfl)
noncomputable def s237 : SC (Tryz.f237.body.getD .skip) := SC.mk' (by simp only [Tryz.f237, go_sem]; rfl)
noncomputable def fun237 : Fun := ⟨[0, 1, 2], [1], [], 1, s237.1, [.tmp 2], 0⟩
theorem ok237 : FnM Tryz.prog 237 fun237 := SC.okM s237 rfl (fn := Tryz.f237) (by kernel_rfl) (by kernel_rfl)
noncomputable def s269 : SC (Tryz.f269.body.getD .skip) := SC.mk' (by simp only [Tryz.f269, go_sem]; rfl)
noncomputable def fun269 : Fun := ⟨[0, 1], [], [], 2, s269.1, [], 0⟩
theorem ok269 : FnM Tryz.prog 269 fun269 := SC.okM s269 rfl (fn := Tryz.f269) (by kernel_rfl) (by kernel_rfl)
noncomputable def s283 : SC (Tryz.f283.body.getD .skip) := SC.mk' (by simp only [Tryz.f283, go_sem]; rfl)
noncomputable def fun283 : Fun := ⟨[0, 1, 2, 3, 8, 11, 4, 5, 10, 12, 18, 27, 43, 9], [4, 5, 8, 11], [], 4, s283.1, [.cell 8 true 4, .tmp 9], 650⟩
theorem ok283 : FnM Tryz.prog 283 fun283 := SC.okM s283 rfl (fn := Tryz.f283) (by kernel_rfl) (by kernel_rfl)
noncomputable def s299 : SC (Tryz.f299.body.getD .skip) := SC.mk' (by simp only [Tryz.f299, go_sem]; rfl)
noncomputable def fun299 : Fun := ⟨[0, 1, 2, 3, 4, 7, 8, 10, 16, 40, 9], [4, 7, 8], [], 4, s299.1, [.cell 8 true 11, .tmp 9], 130⟩
theorem ok299 : FnM Tryz.prog 299 fun299 := SC.okM s299 rfl (fn := Tryz.f299) (by kernel_rfl) (by kernel_rfl)
noncomputable def s318 : SC (Tryz.f318.body.getD .skip) := SC.mk' (by simp only [Tryz.f318, go_sem]; rfl)
noncomputable def fun318 : Fun := ⟨[0, 1, 19, 4], [], [], 2, s318.1, [.tmp 4], 65⟩
theorem ok318 : FnM Tryz.prog 318 fun318 := SC.okM s318 rfl (fn := Tryz.f318) (by kernel_rfl) (by kernel_rfl)
noncomputable def s322 : SC (Tryz.f322.body.getD .skip) := SC.mk' (by simp only [Tryz.f322, go_sem]; rfl)
noncomputable def fun322 : Fun := ⟨[0, 13, 1, 3, 11, 5, 12, 14, 2], [1, 5], [], 1, s322.1, [.tmp 2], 260⟩
theorem ok322 : FnM Tryz.prog 322 fun322 := SC.okM s322 rfl (fn := Tryz.f322) (by kernel_rfl) (by kernel_rfl)
noncomputable def s323 : SC (Tryz.f323.body.getD .skip) := SC.mk' (by simp only [Tryz.f323, go_sem]; rfl)
noncomputable def fun323 : Fun := ⟨[0, 1, 2, 3], [2], [], 2, s323.1, [.tmp 3], 710⟩
theorem ok323 : FnM Tryz.prog 323 fun323 := SC.okM s323 rfl (fn := Tryz.f323) (by kernel_rfl) (by kernel_rfl)
noncomputable def s324 : SC (Tryz.f324.body.getD .skip) := SC.mk' (by simp only [Tryz.f324, go_sem]; rfl)
noncomputable def fun324 : Fun := ⟨[0, 1, 2, 3, 4], [2], [], 2, s324.1, [.tmp 4], 645⟩
theorem ok324 : FnM Tryz.prog 324 fun324 := SC.okM s324 rfl (fn := Tryz.f324) (by kernel_rfl) (by kernel_rfl)
noncomputable def s330 : SC (Tryz.f330.body.getD .skip) := SC.mk' (by simp only [Tryz.f330, go_sem]; rfl)
noncomputable def fun330 : Fun := ⟨[0, 1, 2, 3], [2], [], 2, s330.1, [.tmp 3], 0⟩
theorem ok330 : FnM Tryz.prog 330 fun330 := SC.okM s330 rfl (fn := Tryz.f330) (by kernel_rfl) (by kernel_rfl)
noncomputable def s370 : SC (Tryz.f370.body.getD .skip) := SC.mk' (by simp only [Tryz.f370, go_sem]; rfl)
noncomputable def fun370 : Fun := ⟨[0, 1, 2, 6, 3, 4, 8, 9, 13, 17, 23, 10, 11, 33, 38, 43, 49, 12, 63, 7], [3, 4, 6], [], 3, s370.1, [.cell 6 true 2, .tmp 7], 390⟩
theorem ok370 : FnM Tryz.prog 370 fun370 := SC.okM s370 rfl (fn := Tryz.f370) (by kernel_rfl) (by kernel_rfl)
noncomputable def s373 : SC (Tryz.f373.body.getD .skip) := SC.mk' (by simp only [Tryz.f373, go_sem]; rfl)
noncomputable def fun373 : Fun := ⟨[0, 1, 2, 4], [2], [], 2, s373.1, [.tmp 4], 0⟩
theorem ok373 : FnM Tryz.prog 373 fun373 := SC.okM s373 rfl (fn := Tryz.f373) (by kernel_rfl) (by kernel_rfl)
noncomputable def s375 : SC (Tryz.f375.body.getD .skip) := SC.mk' (by simp only [Tryz.f375, go_sem]; rfl)
noncomputable def fun375 : Fun := ⟨[0, 2], [], [], 1, s375.1, [.tmp 2], 0⟩
theorem ok375 : FnM Tryz.prog 375 fun375 := SC.okM s375 rfl (fn := Tryz.f375) (by kernel_rfl) (by kernel_rfl)
noncomputable def s379 : SC (Tryz.f379.body.getD .skip) := SC.mk' (by simp only [Tryz.f379, go_sem]; rfl)
noncomputable def fun379 : Fun := ⟨[0, 1, 2, 12, 3, 10, 13, 8, 9, 11, 26, 34, 52, 58, 67, 6, 7], [3], [], 3, s379.1, [.tmp 6, .tmp 7], 520⟩
theorem ok379 : FnM Tryz.prog 379 fun379 := SC.okM s379 rfl (fn := Tryz.f379) (by kernel_rfl) (by kernel_rfl)
noncomputable def s399 : SC (Tryz.f399.body.getD .skip) := SC.mk' (by simp only [Tryz.f399, go_sem]; rfl)
noncomputable def fun399 : Fun := ⟨[0, 1, 3, 6, 10, 12, 16, 20, 4, 5], [3], [], 2, s399.1, [.tmp 4, .tmp 5], 325⟩
theorem ok399 : FnM Tryz.prog 399 fun399 := SC.okM s399 rfl (fn := Tryz.f399) (by kernel_rfl) (by kernel_rfl)
noncomputable def s405 : SC (Tryz.f405.body.getD .skip) := SC.mk' (by simp only [Tryz.f405, go_sem]; rfl)
noncomputable def fun405 : Fun := ⟨[0, 1, 2, 3, 6, 4, 10, 8, 9, 17, 23, 26, 31, 39, 45, 68, 11, 13, 7], [3, 4, 6], [], 3, s405.1, [.cell 6 true 2, .tmp 7], 195⟩
theorem ok405 : FnM Tryz.prog 405 fun405 := SC.okM s405 rfl (fn := Tryz.f405) (by kernel_rfl) (by kernel_rfl)
noncomputable def s424 : SC (Tryz.f424.body.getD .skip) := SC.mk' (by simp only [Tryz.f424, go_sem]; rfl)
noncomputable def fun424 : Fun := ⟨[0, 1, 6, 5, 11, 12, 13, 16, 19, 4], [], [], 2, s424.1, [.tmp 4], 65⟩
theorem ok424 : FnM Tryz.prog 424 fun424 := SC.okM s424 rfl (fn := Tryz.f424) (by kernel_rfl) (by kernel_rfl)
end Go.M
