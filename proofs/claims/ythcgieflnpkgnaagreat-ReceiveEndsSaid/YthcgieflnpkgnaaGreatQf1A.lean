/-
  The codes of functions, as the machine takes them.
  No condition: definitions and lemmas.
-/
import Derived.Test.YthcgieflnpkgnaaGreatQtyA
set_option linter.all false
set_option maxRecDepth 100000
set_option maxHeartbeats 4000000
namespace Go.M
open Go Go.Proofs
open Go.Eng (SOp SOper SCode sizeP aggP zerosOf bytesP zeroVal stripCode stripOps stripOper strip stripParts kindsOf)

noncomputable def s10 : SC (Tryz.f10.body.getD .skip) := SC.mk' (by simp only [Tryz.f10, go_sem]; rfl)
noncomputable def fun10 : Fun := ⟨[0, 1, 2, 4], [2], [], 2, s10.1, [.tmp 4], 8⟩
theorem ok10 : FnM Tryz.prog 10 fun10 := SC.okM s10 rfl (fn := Tryz.f10) (by kernel_rfl) (by kernel_rfl)
noncomputable def s18 : SC (Tryz.f18.body.getD .skip) := SC.mk' (by simp only [Tryz.f18, go_sem]; rfl)
noncomputable def fun18 : Fun := ⟨[0, 1, 5, 7, 2, 4, 15], [2, 4, 5], [], 2, s18.1, [.cell 4 true 11], 18⟩
theorem ok18 : FnM Tryz.prog 18 fun18 := SC.okM s18 rfl (fn := Tryz.f18) (by kernel_rfl) (by kernel_rfl)
noncomputable def s19 : SC (Tryz.f19.body.getD .skip) := SC.mk' (by simp only [Tryz.f19, go_sem]; rfl)
noncomputable def fun19 : Fun := ⟨[0, 1, 2, 3, 12, 15, 4, 17, 8, 14, 16, 5, 6, 33, 18, 19, 53, 9, 10, 11], [4, 5, 6, 8, 12, 16, 17], [], 4, s19.1, [.cell 8 true 11, .tmp 9, .tmp 10, .tmp 11], 17⟩
theorem ok19 : FnM Tryz.prog 19 fun19 := SC.okM s19 rfl (fn := Tryz.f19) (by kernel_rfl) (by kernel_rfl)
noncomputable def s27 : SC (Tryz.f27.body.getD .skip) := SC.mk' (by simp only [Tryz.f27, go_sem]; rfl)
noncomputable def fun27 : Fun := ⟨[0, 1, 6, 7, 4, 8, 19, 24, 46, 5], [4, 6], [], 2, s27.1, [.cell 4 true 3, .tmp 5], 0⟩
theorem ok27 : FnM Tryz.prog 27 fun27 := SC.okM s27 rfl (fn := Tryz.f27) (by kernel_rfl) (by kernel_rfl)
noncomputable def s36 : SC (Tryz.f36.body.getD .skip) := SC.mk' (by simp only [Tryz.f36, go_sem]; rfl)
noncomputable def fun36 : Fun := ⟨[0, 4, 3, 8, 2], [], [], 1, s36.1, [.tmp 2], 0⟩
theorem ok36 : FnM Tryz.prog 36 fun36 := SC.okM s36 rfl (fn := Tryz.f36) (by kernel_rfl) (by kernel_rfl)
noncomputable def s65 : SC (Tryz.f65.body.getD .skip) := SC.mk' (by simp only [Tryz.f65, go_sem]; rfl)
noncomputable def fun65 : Fun := ⟨[0, 1, 6, 7, 8, 3, 4, 5, 13, 19, 31, 43, 49, 55, 61, 81, 85, 96, 2], [1], [], 1, s65.1, [.tmp 2], 6⟩
theorem ok65 : FnM Tryz.prog 65 fun65 := SC.okM s65 rfl (fn := Tryz.f65) (by kernel_rfl) (by kernel_rfl)
noncomputable def s82 : SC (Tryz.f82.body.getD .skip) := SC.mk' (by simp only [Tryz.f82, go_sem]; rfl)
noncomputable def fun82 : Fun := ⟨[0, 1, 5, 10, 14, 25, 4], [], [], 2, s82.1, [.tmp 4], 0⟩
theorem ok82 : FnM Tryz.prog 82 fun82 := SC.okM s82 rfl (fn := Tryz.f82) (by kernel_rfl) (by kernel_rfl)
noncomputable def s97 : SC (Tryz.f97.body.getD .skip) := SC.mk' (by simp only [Tryz.f97, go_sem]; rfl)
noncomputable def fun97 : Fun := ⟨[0, 1, 2, 6], [], [], 3, s97.1, [.tmp 6], 0⟩
theorem ok97 : FnM Tryz.prog 97 fun97 := SC.okM s97 rfl (fn := Tryz.f97) (by kernel_rfl) (by kernel_rfl)
noncomputable def s110 : SC (Tryz.f110.body.getD .skip) := SC.mk' (by simp only [Tryz.f110, go_sem]; rfl)
noncomputable def fun110 : Fun := ⟨[0, 1, 4, 3, 7, 5, 6, 8, 12, 17, 29, 31, 36, 45, 66, 74, 79, 106, 2], [1, 4], [], 1, s110.1, [.tmp 2], 2⟩
theorem ok110 : FnM Tryz.prog 110 fun110 := SC.okM s110 rfl (fn := Tryz.f110) (by kernel_rfl) (by kernel_rfl)
noncomputable def s117 : SC (Tryz.f117.body.getD .skip) := SC.mk' (by simp only [Tryz.f117, go_sem]; rfl)
noncomputable def fun117 : Fun := ⟨[0, 1, 2], [1, 2], [], 1, s117.1, [.cell 2 true 6], 0⟩
theorem ok117 : FnM Tryz.prog 117 fun117 := SC.okM s117 rfl (fn := Tryz.f117) (by kernel_rfl) (by kernel_rfl)
noncomputable def s118 : SC (Tryz.f118.body.getD .skip) := SC.mk' (by simp only [Tryz.f118, go_sem]; rfl)
noncomputable def fun118 : Fun := ⟨[0, 1, 2, 4], [2], [], 2, s118.1, [.tmp 4], 8⟩
theorem ok118 : FnM Tryz.prog 118 fun118 := SC.okM s118 rfl (fn := Tryz.f118) (by kernel_rfl) (by kernel_rfl)
noncomputable def s122 : SC (Tryz.f122.body.getD .skip) := SC.mk' (by simp only [Tryz.f122, go_sem]; rfl)
noncomputable def fun122 : Fun := ⟨[0, 1, 2, 18, 27, 4], [2], [], 2, s122.1, [.tmp 4], 5⟩
theorem ok122 : FnM Tryz.prog 122 fun122 := SC.okM s122 rfl (fn := Tryz.f122) (by kernel_rfl) (by kernel_rfl)
noncomputable def s149 : SC (Tryz.f149.body.getD .skip) := SC.mk' (by simp only [Tryz.f149, go_sem]; rfl)
noncomputable def fun149 : Fun := ⟨[0, 4, 5, 3, 8, 12, 20, 24, 35, 39, 52, 2], [], [], 1, s149.1, [.tmp 2], 1⟩
theorem ok149 : FnM Tryz.prog 149 fun149 := SC.okM s149 rfl (fn := Tryz.f149) (by kernel_rfl) (by kernel_rfl)
noncomputable def s153 : SC (Tryz.f153.body.getD .skip) := SC.mk' (by simp only [Tryz.f153, go_sem]; rfl)
noncomputable def fun153 : Fun := ⟨[0, 1, 2, 4, 6, 7, 3, 15, 32, 11, 10, 12, 14, 18, 19, 136, 24, 33, 43, 58, 13, 72, 80, 95, 16, 17, 115, 122, 20, 132, 137, 146, 8, 9], [3, 4, 6, 7, 11, 12, 15, 19], [], 3, s153.1, [.cell 6 true 11, .cell 7 true 63, .tmp 8, .tmp 9], 14⟩
theorem ok153 : FnM Tryz.prog 153 fun153 := SC.okM s153 rfl (fn := Tryz.f153) (by kernel_rfl) (by kernel_rfl)
noncomputable def s169 : SC (Tryz.f169.body.getD .skip) := SC.mk' (by simp only [Tryz.f169, go_sem]; rfl)
noncomputable def fun169 : Fun := ⟨[0, 1, 2, 3], [2], [], 2, s169.1, [.tmp 3], 0⟩
theorem ok169 : FnM Tryz.prog 169 fun169 := SC.okM s169 rfl (fn := Tryz.f169) (by kernel_rfl) (by kernel_rfl)
noncomputable def s170 : SC (Tryz.f170.body.getD .skip) := SC.mk' (by simp only [Tryz.f170, go_sem]; rfl)
noncomputable def fun170 : Fun := ⟨[0, 1, 11, 4, 41, 7, 9, 48, 10, 12, 3, 5, 36, 40, 42, 6, 47, 49, 51, 59, 2], [1], [], 1, s170.1, [.tmp 2], 3⟩
theorem ok170 : FnM Tryz.prog 170 fun170 := SC.okM s170 rfl (fn := Tryz.f170) (by kernel_rfl) (by kernel_rfl)
noncomputable def s171 : SC (Tryz.f171.body.getD .skip) := SC.mk' (by simp only [Tryz.f171, go_sem]; rfl)
noncomputable def fun171 : Fun := ⟨[0, 1, 3, 7, 11, 2], [1], [], 1, s171.1, [.tmp 2], 7⟩
theorem ok171 : FnM Tryz.prog 171 fun171 := SC.okM s171 rfl (fn := Tryz.f171) (by kernel_rfl) (by kernel_rfl)
noncomputable def s193 : SC (Tryz.f193.body.getD .skip) := SC.mk' (by simp only [Tryz.f193, go_sem]; rfl)
noncomputable def fun193 : Fun := ⟨[0, 4, 2], [], [], 1, s193.1, [.tmp 2], 0⟩
theorem ok193 : FnM Tryz.prog 193 fun193 := SC.okM s193 rfl (fn := Tryz.f193) (by kernel_rfl) (by kernel_rfl)
noncomputable def s194 : SC (Tryz.f194.body.getD .skip) := SC.mk' (by simp only [Tryz.f194, go_sem]; rfl)
noncomputable def fun194 : Fun := ⟨[0, 3, 30, 32, 47, 57, 2], [], [], 1, s194.1, [.tmp 2], 9⟩
theorem ok194 : FnM Tryz.prog 194 fun194 := SC.okM s194 rfl (fn := Tryz.f194) (by kernel_rfl) (by kernel_rfl)
noncomputable def s197 : SC (Tryz.f197.body.getD .skip) := SC.mk' (by simp only [Tryz.f197, go_sem]; rfl)
noncomputable def fun197 : Fun := ⟨[0, 3, 31, 2], [], [], 1, s197.1, [.tmp 2], 2⟩
theorem ok197 : FnM Tryz.prog 197 fun197 := SC.okM s197 rfl (fn := Tryz.f197) (by kernel_rfl) (by kernel_rfl)
noncomputable def s203 : SC (Tryz.f203.body.getD .skip) := SC.mk' (by simp only [Tryz.f203, go_sem]; rfl)
noncomputable def fun203 : Fun := ⟨[0, 1, 38, 42, 2], [1], [], 1, s203.1, [.tmp 2], 1⟩
theorem ok203 : FnM Tryz.prog 203 fun203 := SC.okM s203 rfl (fn := Tryz.f203) (by kernel_rfl) (by kernel_rfl)
noncomputable def s215 : SC (Tryz.f215.body.getD .skip) := SC.mk' (by simp only [Tryz.f215, go_sem]; rfl)
noncomputable def fun215 : Fun := ⟨[0, 1, 2, 3, 5, 4, 8], [4, 5, 8], [], 4, s215.1, [.cell 8 true 63], 3⟩
theorem ok215 : FnM Tryz.prog 215 fun215 := SC.okM s215 rfl (fn := Tryz.f215) (by kernel_rfl) (by kernel_rfl)
noncomputable def s282 : SC (Tryz.f282.body.getD .skip) := SC.mk' (by simp only [Tryz.f282, go_sem]; rfl)
noncomputable def fun282 : Fun := ⟨[0, 1, 2, 4, 6, 7, 10, 3, 20, 11, 30, 38, 8], [3, 4, 6, 7], [], 3, s282.1, [.cell 6 true 11, .cell 7 true 5, .tmp 8], 4⟩
theorem ok282 : FnM Tryz.prog 282 fun282 := SC.okM s282 rfl (fn := Tryz.f282) (by kernel_rfl) (by kernel_rfl)
noncomputable def s284 : SC (Tryz.f284.body.getD .skip) := SC.mk' (by simp only [Tryz.f284, go_sem]; rfl)
noncomputable def fun284 : Fun := ⟨[0, 1], [], [], 2, s284.1, [], 0⟩
theorem ok284 : FnM Tryz.prog 284 fun284 := SC.okM s284 rfl (fn := Tryz.f284) (by kernel_rfl) (by kernel_rfl)
noncomputable def s305 : SC (Tryz.f305.body.getD .skip) := SC.mk' (by simp only [Tryz.f305, go_sem]; rfl)
noncomputable def fun305 : Fun := ⟨[0, 1, 2, 6, 3], [1, 2], [], 1, s305.1, [.cell 2 true 5, .tmp 3], 0⟩
theorem ok305 : FnM Tryz.prog 305 fun305 := SC.okM s305 rfl (fn := Tryz.f305) (by kernel_rfl) (by kernel_rfl)
noncomputable def s351 : SC (Tryz.f351.body.getD .skip) := SC.mk' (by simp only [Tryz.f351, go_sem]; rfl)
noncomputable def fun351 : Fun := ⟨[0, 1, 2, 4], [2], [], 2, s351.1, [.tmp 4], 0⟩
theorem ok351 : FnM Tryz.prog 351 fun351 := SC.okM s351 rfl (fn := Tryz.f351) (by kernel_rfl) (by kernel_rfl)
noncomputable def s357 : SC (Tryz.f357.body.getD .skip) := SC.mk' (by simp only [Tryz.f357, go_sem]; rfl)
noncomputable def fun357 : Fun := ⟨[0, 4, 2], [], [], 1, s357.1, [.tmp 2], 0⟩
theorem ok357 : FnM Tryz.prog 357 fun357 := SC.okM s357 rfl (fn := Tryz.f357) (by kernel_rfl) (by kernel_rfl)
noncomputable def s362 : SC (Tryz.f362.body.getD .skip) := SC.mk' (by simp only [Tryz.f362, go_sem]; rfl)
noncomputable def fun362 : Fun := ⟨[0, 1, 3, 6, 10, 12, 16, 20, 4, 5], [3], [], 2, s362.1, [.tmp 4, .tmp 5], 5⟩
theorem ok362 : FnM Tryz.prog 362 fun362 := SC.okM s362 rfl (fn := Tryz.f362) (by kernel_rfl) (by kernel_rfl)
noncomputable def s364 : SC (Tryz.f364.body.getD .skip) := SC.mk' (by simp only [Tryz.f364, go_sem]; rfl)
noncomputable def fun364 : Fun := ⟨[0, 1, 5, 2], [1], [], 1, s364.1, [.tmp 2], 3⟩
theorem ok364 : FnM Tryz.prog 364 fun364 := SC.okM s364 rfl (fn := Tryz.f364) (by kernel_rfl) (by kernel_rfl)
noncomputable def s406 : SC (Tryz.f406.body.getD .skip) := SC.mk' (by simp only [Tryz.f406, go_sem]; rfl)
noncomputable def fun406 : Fun := ⟨[0, 1, 15, 4, 13, 11, 14, 16, 28, 2], [1, 4], [], 1, s406.1, [.tmp 2], 2⟩
theorem ok406 : FnM Tryz.prog 406 fun406 := SC.okM s406 rfl (fn := Tryz.f406) (by kernel_rfl) (by kernel_rfl)
noncomputable def s426 : SC (Tryz.f426.body.getD .skip) := SC.mk' (by simp only [Tryz.f426, go_sem]; rfl)
noncomputable def fun426 : Fun := ⟨[0, 2], [], [], 1, s426.1, [.tmp 2], 0⟩
theorem ok426 : FnM Tryz.prog 426 fun426 := SC.okM s426 rfl (fn := Tryz.f426) (by kernel_rfl) (by kernel_rfl)
noncomputable def s431 : SC (Tryz.f431.body.getD .skip) := SC.mk' (by simp only [Tryz.f431, go_sem]; rfl)
noncomputable def fun431 : Fun := ⟨[0, 1, 8, 5, 7, 9, 16, 4], [], [], 2, s431.1, [.tmp 4], 0⟩
theorem ok431 : FnM Tryz.prog 431 fun431 := SC.okM s431 rfl (fn := Tryz.f431) (by kernel_rfl) (by kernel_rfl)
noncomputable def s437 : SC (Tryz.f437.body.getD .skip) := SC.mk' (by simp only [Tryz.f437, go_sem]; rfl)
noncomputable def fun437 : Fun := ⟨[0, 1, 3, 4], [], [], 2, s437.1, [.tmp 4], 3⟩
theorem ok437 : FnM Tryz.prog 437 fun437 := SC.okM s437 rfl (fn := Tryz.f437) (by kernel_rfl) (by kernel_rfl)
noncomputable def s439 : SC (Tryz.f439.body.getD .skip) := SC.mk' (by simp only [Tryz.f439, go_sem]; rfl)
noncomputable def fun439 : Fun := ⟨[0, 1, 2], [1], [], 1, s439.1, [.tmp 2], 0⟩
theorem ok439 : FnM Tryz.prog 439 fun439 := SC.okM s439 rfl (fn := Tryz.f439) (by kernel_rfl) (by kernel_rfl)
noncomputable def s465 : SC (Tryz.f465.body.getD .skip) := SC.mk' (by simp only [Tryz.f465, go_sem]; rfl)
noncomputable def fun465 : Fun := ⟨[0, 1, 4], [], [], 2, s465.1, [.tmp 4], 3⟩
theorem ok465 : FnM Tryz.prog 465 fun465 := SC.okM s465 rfl (fn := Tryz.f465) (by kernel_rfl) (by kernel_rfl)
noncomputable def s478 : SC (Tryz.f478.body.getD .skip) := SC.mk' (by simp only [Tryz.f478, go_sem]; rfl)
noncomputable def fun478 : Fun := ⟨[0, 1, 2, 3, 5, 6, 10, 15, 22, 28, 4], [2, 3], [], 2, s478.1, [.tmp 4], 3⟩
theorem ok478 : FnM Tryz.prog 478 fun478 := SC.okM s478 rfl (fn := Tryz.f478) (by kernel_rfl) (by kernel_rfl)
noncomputable def s492 : SC (Tryz.f492.body.getD .skip) := SC.mk' (by simp only [Tryz.f492, go_sem]; rfl)
noncomputable def fun492 : Fun := ⟨[0, 2], [], [], 1, s492.1, [.tmp 2], 0⟩
theorem ok492 : FnM Tryz.prog 492 fun492 := SC.okM s492 rfl (fn := Tryz.f492) (by kernel_rfl) (by kernel_rfl)
noncomputable def s493 : SC (Tryz.f493.body.getD .skip) := SC.mk' (by simp only [Tryz.f493, go_sem]; rfl)
noncomputable def fun493 : Fun := ⟨[0, 1, 8, 5, 7, 9, 16, 4], [], [], 2, s493.1, [.tmp 4], 2⟩
theorem ok493 : FnM Tryz.prog 493 fun493 := SC.okM s493 rfl (fn := Tryz.f493) (by kernel_rfl) (by kernel_rfl)
noncomputable def s512 : SC (Tryz.f512.body.getD .skip) := SC.mk' (by simp only [Tryz.f512, go_sem]; rfl)
noncomputable def fun512 : Fun := ⟨[0, 1, 2, 3, 6, 11], [3, 6], [], 3, s512.1, [.cell 6 true 11], 1⟩
theorem ok512 : FnM Tryz.prog 512 fun512 := SC.okM s512 rfl (fn := Tryz.f512) (by kernel_rfl) (by kernel_rfl)
noncomputable def s516 : SC (Tryz.f516.body.getD .skip) := SC.mk' (by simp only [Tryz.f516, go_sem]; rfl)
noncomputable def fun516 : Fun := ⟨[0, 1, 2, 3, 6, 22, 27, 7, 8], [3, 6], [], 3, s516.1, [.cell 6 true 11, .tmp 7, .tmp 8], 1⟩
theorem ok516 : FnM Tryz.prog 516 fun516 := SC.okM s516 rfl (fn := Tryz.f516) (by kernel_rfl) (by kernel_rfl)
noncomputable def s531 : SC (Tryz.f531.body.getD .skip) := SC.mk' (by simp only [Tryz.f531, go_sem]; rfl)
noncomputable def fun531 : Fun := ⟨[0, 1, 2, 3, 4, 16, 13, 10, 12, 14, 18, 19, 20, 11, 25, 32, 39, 56, 75, 80, 97, 15, 17, 125], [], [], 5, s531.1, [], 7⟩
theorem ok531 : FnM Tryz.prog 531 fun531 := SC.okM s531 rfl (fn := Tryz.f531) (by kernel_rfl) (by kernel_rfl)
noncomputable def s542 : SC (Tryz.f542.body.getD .skip) := SC.mk' (by simp only [Tryz.f542, go_sem]; rfl)
noncomputable def fun542 : Fun := ⟨[0, 1, 2, 12, 3, 10, 13, 8, 9, 11, 26, 34, 52, 58, 67, 6, 7], [3], [], 3, s542.1, [.tmp 6, .tmp 7], 8⟩
theorem ok542 : FnM Tryz.prog 542 fun542 := SC.okM s542 rfl (fn := Tryz.f542) (by kernel_rfl) (by kernel_rfl)
end Go.M
