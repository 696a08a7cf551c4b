/-
  The codes of functions, as the machine takes them.
  No condition: definitions and lemmas.
-/
import Derived.Test.YthhjbngoibmpgaaGreatQtym
set_option linter.all false
set_option maxRecDepth 100000
set_option maxHeartbeats 4000000
namespace Go.M
open Go Go.Proofs
open Go.Eng (SOp SOper SCode sizeP aggP zerosOf bytesP zeroVal stripCode stripOps stripOper strip stripParts kindsOf)

noncomputable def s50 : SC (Tryz.f50.body.getD .skip) := SC.mk' (by simp only [Tryz.f50, go_sem]; rfl)
noncomputable def fun50 : Fun := ⟨[0], [0], [], 0, s50.1, [.cell 0 true 4], 0⟩
theorem ok50 : FnM Tryz.prog 50 fun50 := SC.okM s50 rfl (fn := Tryz.f50) (by kernel_rfl) (by kernel_rfl)
noncomputable def s64 : SC (Tryz.f64.body.getD .skip) := SC.mk' (by simp only [Tryz.f64, go_sem]; rfl)
noncomputable def fun64 : Fun := ⟨[0, 1, 2, 6], [], [], 3, s64.1, [.tmp 6], 0⟩
theorem ok64 : FnM Tryz.prog 64 fun64 := SC.okM s64 rfl (fn := Tryz.f64) (by kernel_rfl) (by kernel_rfl)
noncomputable def s73 : SC (Tryz.f73.body.getD .skip) := SC.mk' (by simp only [Tryz.f73, go_sem]; rfl)
noncomputable def fun73 : Fun := ⟨[0, 3, 4, 5, 35, 2], [], [], 1, s73.1, [.tmp 2], 780⟩
theorem ok73 : FnM Tryz.prog 73 fun73 := SC.okM s73 rfl (fn := Tryz.f73) (by kernel_rfl) (by kernel_rfl)
noncomputable def s80 : SC (Tryz.f80.body.getD .skip) := SC.mk' (by simp only [Tryz.f80, go_sem]; rfl)
noncomputable def fun80 : Fun := ⟨[0, 1, 6, 7, 4, 8, 2, 57, 78, 90, 3], [1, 2, 4, 6, 8], [], 1, s80.1, [.cell 2 true 11, .tmp 3], 130⟩
theorem ok80 : FnM Tryz.prog 80 fun80 := SC.okM s80 rfl (fn := Tryz.f80) (by kernel_rfl) (by kernel_rfl)
noncomputable def s82 : SC (Tryz.f82.body.getD .skip) := SC.mk' (by simp only [Tryz.f82, go_sem]; rfl)
noncomputable def fun82 : Fun := ⟨[0, 4, 1, 6, 7, 8, 3, 5, 19, 2], [1, 8], [], 1, s82.1, [.tmp 2], 65⟩
theorem ok82 : FnM Tryz.prog 82 fun82 := SC.okM s82 rfl (fn := Tryz.f82) (by kernel_rfl) (by kernel_rfl)
noncomputable def s121 : SC (Tryz.f121.body.getD .skip) := SC.mk' (by simp only [Tryz.f121, go_sem]; rfl)
noncomputable def fun121 : Fun := ⟨[0, 1, 3, 2, 4, 5, 11, 7, 6], [2, 3, 4, 5], [], 2, s121.1, [.cell 4 true 11, .cell 5 true 26, .tmp 6], 130⟩
theorem ok121 : FnM Tryz.prog 121 fun121 := SC.okM s121 rfl (fn := Tryz.f121) (by kernel_rfl) (by kernel_rfl)
noncomputable def s122 : SC (Tryz.f122.body.getD .skip) := SC.mk' (by simp only [Tryz.f122, go_sem]; rfl)
noncomputable def fun122 : Fun := ⟨[0, 1, 2, 3, 5, 4, 8, 9, 20, 12, 14, 17, 11, 13, 15, 16, 18, 21, 40, 46, 52, 61, 69, 87, 93, 102, 110, 119, 138, 10], [4, 5, 8, 9, 11, 12, 14, 16, 17], [], 4, s122.1, [.cell 8 true 11, .cell 9 true 26, .tmp 10], 715⟩
theorem ok122 : FnM Tryz.prog 122 fun122 := SC.okM s122 rfl (fn := Tryz.f122) (by kernel_rfl) (by kernel_rfl)
noncomputable def s123 : SC (Tryz.f123.body.getD .skip) := SC.mk' (by simp only [Tryz.f123, go_sem]; rfl)
noncomputable def fun123 : Fun := ⟨[0, 2, 9, 3], [2], [], 1, s123.1, [.cell 2 true 3, .tmp 3], 0⟩
theorem ok123 : FnM Tryz.prog 123 fun123 := SC.okM s123 rfl (fn := Tryz.f123) (by kernel_rfl) (by kernel_rfl)
noncomputable def s124 : SC (Tryz.f124.body.getD .skip) := SC.mk' (by simp only [Tryz.f124, go_sem]; rfl)
noncomputable def fun124 : Fun := ⟨[0, 1, 3, 39, 37, 5, 9, 26, 31, 38, 40, 4, 50, 54, 2], [1, 5], [], 1, s124.1, [.tmp 2], 260⟩
theorem ok124 : FnM Tryz.prog 124 fun124 := SC.okM s124 rfl (fn := Tryz.f124) (by kernel_rfl) (by kernel_rfl)
noncomputable def s146 : SC (Tryz.f146.body.getD .skip) := SC.mk' (by simp only [Tryz.f146, go_sem]; rfl)
noncomputable def fun146 : Fun := ⟨[0, 4, 1, 10, 5, 2], [1], [], 1, s146.1, [.tmp 2], 0⟩
theorem ok146 : FnM Tryz.prog 146 fun146 := SC.okM s146 rfl (fn := Tryz.f146) (by kernel_rfl) (by kernel_rfl)
noncomputable def s153 : SC (Tryz.f153.body.getD .skip) := SC.mk' (by simp only [Tryz.f153, go_sem]; rfl)
noncomputable def fun153 : Fun := ⟨[0, 1, 2, 5, 15, 35, 4], [2], [], 2, s153.1, [.tmp 4], 130⟩
theorem ok153 : FnM Tryz.prog 153 fun153 := SC.okM s153 rfl (fn := Tryz.f153) (by kernel_rfl) (by kernel_rfl)
noncomputable def s181 : SC (Tryz.f181.body.getD .skip) := SC.mk' (by simp only [Tryz.f181, go_sem]; rfl)
noncomputable def fun181 : Fun := ⟨[0, 1, 2, 3, 4, 6, 11, 5], [2, 3, 4], [], 2, s181.1, [.cell 4 true 3, .tmp 5], 260⟩
theorem ok181 : FnM Tryz.prog 181 fun181 := SC.okM s181 rfl (fn := Tryz.f181) (by kernel_rfl) (by kernel_rfl)
noncomputable def s189 : SC (Tryz.f189.body.getD .skip) := SC.mk' (by simp only [Tryz.f189, go_sem]; rfl)
noncomputable def fun189 : Fun := ⟨[0, 1, 6, 3, 5, 2, 12, 24, 4], [2, 3], [], 2, s189.1, [.tmp 4], 0⟩
theorem ok189 : FnM Tryz.prog 189 fun189 := SC.okM s189 rfl (fn := Tryz.f189) (by kernel_rfl) (by kernel_rfl)
noncomputable def s195 : SC (Tryz.f195.body.getD .skip) := SC.mk' (by simp only [Tryz.f195, go_sem]; rfl)
noncomputable def fun195 : Fun := ⟨[0, 1, 2, 4, 3, 9, 12, 6, 7, 10, 11, 22, 45, 63, 76, 8], [3, 4, 6, 7, 10, 11], [], 3, s195.1, [.cell 6 true 11, .cell 7 true 26, .tmp 8], 650⟩
theorem ok195 : FnM Tryz.prog 195 fun195 := SC.okM s195 rfl (fn := Tryz.f195) (by kernel_rfl) (by kernel_rfl)
noncomputable def s205 : SC (Tryz.f205.body.getD .skip) := SC.mk' (by simp only [Tryz.f205, go_sem]; rfl)
noncomputable def fun205 : Fun := ⟨[0, 1], [], [], 2, s205.1, [], 0⟩
theorem ok205 : FnM Tryz.prog 205 fun205 := SC.okM s205 rfl (fn := Tryz.f205) (by kernel_rfl) (by kernel_rfl)
noncomputable def s209 : SC (Tryz.f209.body.getD .skip) := SC.mk' (by simp only [Tryz.f209, go_sem]; rfl)
noncomputable def fun209 : Fun := ⟨[0, 1, 2, 3, 4, 7, 8, 30, 10, 18, 29, 31, 12, 35, 42, 9], [4, 7, 8], [], 4, s209.1, [.cell 8 true 11, .tmp 9], 195⟩
theorem ok209 : FnM Tryz.prog 209 fun209 := SC.okM s209 rfl (fn := Tryz.f209) (by kernel_rfl) (by kernel_rfl)
noncomputable def s210 : SC (Tryz.f210.body.getD .skip) := SC.mk' (by simp only [Tryz.f210, go_sem]; rfl)
noncomputable def fun210 : Fun := ⟨[0, 4, 2], [], [], 1, s210.1, [.tmp 2], 0⟩
theorem ok210 : FnM Tryz.prog 210 fun210 := SC.okM s210 rfl (fn := Tryz.f210) (by kernel_rfl) (by kernel_rfl)
noncomputable def s212 : SC (Tryz.f212.body.getD .skip) := SC.mk' (by simp only [Tryz.f212, go_sem]; rfl)
noncomputable def fun212 : Fun := ⟨[0, 1, 2, 4, 9, 5], [2, 4], [], 2, s212.1, [.cell 4 true 8, .tmp 5], 65⟩
theorem ok212 : FnM Tryz.prog 212 fun212 := SC.okM s212 rfl (fn := Tryz.f212) (by kernel_rfl) (by kernel_rfl)
noncomputable def s214 : SC (Tryz.f214.body.getD .skip) := SC.mk' (by simp only [Tryz.f214, go_sem]; rfl)
noncomputable def fun214 : Fun := ⟨[0, 1, 2, 4, 6, 11, 3, 8, 9, 13, 22, 33, 44, 48, 52, 7], [3, 4, 6], [], 3, s214.1, [.cell 6 true 4, .tmp 7], 65⟩
theorem ok214 : FnM Tryz.prog 214 fun214 := SC.okM s214 rfl (fn := Tryz.f214) (by kernel_rfl) (by kernel_rfl)
noncomputable def s250 : SC (Tryz.f250.body.getD .skip) := SC.mk' (by simp only [Tryz.f250, go_sem]; rfl)
noncomputable def fun250 : Fun := ⟨[0, 1, 5, 2, 9, 12, 4], [2], [], 2, s250.1, [.tmp 4], 520⟩
theorem ok250 : FnM Tryz.prog 250 fun250 := SC.okM s250 rfl (fn := Tryz.f250) (by kernel_rfl) (by kernel_rfl)
noncomputable def s251 : SC (Tryz.f251.body.getD .skip) := SC.mk' (by simp only [Tryz.f251, go_sem]; rfl)
noncomputable def fun251 : Fun := ⟨[0, 2], [], [], 1, s251.1, [.tmp 2], 65⟩
theorem ok251 : FnM Tryz.prog 251 fun251 := SC.okM s251 rfl (fn := Tryz.f251) (by kernel_rfl) (by kernel_rfl)
noncomputable def s260 : SC (Tryz.f260.body.getD .skip) := SC.mk' (by simp only [Tryz.f260, go_sem]; rfl)
noncomputable def fun260 : Fun := ⟨[0, 1, 2, 3, 4, 6, 11, 5], [2, 3, 4], [], 2, s260.1, [.cell 4 true 3, .tmp 5], 975⟩
theorem ok260 : FnM Tryz.prog 260 fun260 := SC.okM s260 rfl (fn := Tryz.f260) (by kernel_rfl) (by kernel_rfl)
noncomputable def s269 : SC (Tryz.f269.body.getD .skip) := SC.mk' (by simp only [Tryz.f269, go_sem]; rfl)
noncomputable def fun269 : Fun := ⟨[0, 4, 3, 8, 2], [], [], 1, s269.1, [.tmp 2], 0⟩
theorem ok269 : FnM Tryz.prog 269 fun269 := SC.okM s269 rfl (fn := Tryz.f269) (by kernel_rfl) (by kernel_rfl)
noncomputable def s277 : SC (Tryz.f277.body.getD .skip) := SC.mk' (by simp only [Tryz.f277, go_sem]; rfl)
noncomputable def fun277 : Fun := ⟨[0, 1, 2, 4, 9, 5], [2, 4], [], 2, s277.1, [.cell 4 true 8, .tmp 5], 65⟩
theorem ok277 : FnM Tryz.prog 277 fun277 := SC.okM s277 rfl (fn := Tryz.f277) (by kernel_rfl) (by kernel_rfl)
noncomputable def s278 : SC (Tryz.f278.body.getD .skip) := SC.mk' (by simp only [Tryz.f278, go_sem]; rfl)
noncomputable def fun278 : Fun := ⟨[0, 1, 2, 6, 7, 11, 15, 4, 5], [2], [], 2, s278.1, [.tmp 4, .tmp 5], 0⟩
theorem ok278 : FnM Tryz.prog 278 fun278 := SC.okM s278 rfl (fn := Tryz.f278) (by kernel_rfl) (by kernel_rfl)
noncomputable def s286 : SC (Tryz.f286.body.getD .skip) := SC.mk' (by simp only [Tryz.f286, go_sem]; rfl)
noncomputable def fun286 : Fun := ⟨[0, 1, 5, 6, 7, 12, 19, 29, 4], [], [], 2, s286.1, [.tmp 4], 455⟩
theorem ok286 : FnM Tryz.prog 286 fun286 := SC.okM s286 rfl (fn := Tryz.f286) (by kernel_rfl) (by kernel_rfl)
noncomputable def s288 : SC (Tryz.f288.body.getD .skip) := SC.mk' (by simp only [Tryz.f288, go_sem]; rfl)
noncomputable def fun288 : Fun := ⟨[0, 2], [], [], 1, s288.1, [.tmp 2], 0⟩
theorem ok288 : FnM Tryz.prog 288 fun288 := SC.okM s288 rfl (fn := Tryz.f288) (by kernel_rfl) (by kernel_rfl)
noncomputable def s294 : SC (Tryz.f294.body.getD .skip) := SC.mk' (by simp only [Tryz.f294, go_sem]; rfl)
noncomputable def fun294 : Fun := ⟨[0, 1, 8, 56, 3, 4, 5, 6, 54, 13, 19, 23, 36, 37, 44, 55, 57, 67, 79, 2], [1, 8], [], 1, s294.1, [.tmp 2], 390⟩
theorem ok294 : FnM Tryz.prog 294 fun294 := SC.okM s294 rfl (fn := Tryz.f294) (by kernel_rfl) (by kernel_rfl)
noncomputable def s312 : SC (Tryz.f312.body.getD .skip) := SC.mk' (by simp only [Tryz.f312, go_sem]; rfl)
noncomputable def fun312 : Fun := ⟨[0, 1, 4, 5, 6, 2, 7, 9, 25, 37, 52, 3], [1, 2, 4, 5, 6, 7, 9], [73, 78], 1, s312.1, [.cell 2 true 63, .tmp 3], 650⟩
theorem ok312 : FnM Tryz.prog 312 fun312 := SC.okM s312 rfl (fn := Tryz.f312) (by kernel_rfl) (by kernel_rfl)
noncomputable def s330 : SC (Tryz.f330.body.getD .skip) := SC.mk' (by simp only [Tryz.f330, go_sem]; rfl)
noncomputable def fun330 : Fun := ⟨[0, 1, 2], [1], [], 1, s330.1, [.tmp 2], 0⟩
theorem ok330 : FnM Tryz.prog 330 fun330 := SC.okM s330 rfl (fn := Tryz.f330) (by kernel_rfl) (by kernel_rfl)
noncomputable def s334 : SC (Tryz.f334.body.getD .skip) := SC.mk' (by simp only [Tryz.f334, go_sem]; rfl)
noncomputable def fun334 : Fun := ⟨[0, 1, 2, 3], [2], [], 2, s334.1, [.tmp 3], 710⟩
theorem ok334 : FnM Tryz.prog 334 fun334 := SC.okM s334 rfl (fn := Tryz.f334) (by kernel_rfl) (by kernel_rfl)
noncomputable def s340 : SC (Tryz.f340.body.getD .skip) := SC.mk' (by simp only [Tryz.f340, go_sem]; rfl)
noncomputable def fun340 : Fun := ⟨[0, 4, 2], [], [], 1, s340.1, [.tmp 2], 0⟩
theorem ok340 : FnM Tryz.prog 340 fun340 := SC.okM s340 rfl (fn := Tryz.f340) (by kernel_rfl) (by kernel_rfl)
noncomputable def s355 : SC (Tryz.f355.body.getD .skip) := SC.mk' (by simp only [Tryz.f355, go_sem]; rfl)
noncomputable def fun355 : Fun := ⟨[0, 1, 2, 4], [2], [], 2, s355.1, [.tmp 4], 0⟩
theorem ok355 : FnM Tryz.prog 355 fun355 := SC.okM s355 rfl (fn := Tryz.f355) (by kernel_rfl) (by kernel_rfl)
noncomputable def s357 : SC (Tryz.f357.body.getD .skip) := SC.mk' (by simp only [Tryz.f357, go_sem]; rfl)
noncomputable def fun357 : Fun := ⟨[0, 1, 2, 12, 3, 10, 13, 8, 9, 11, 26, 34, 52, 58, 67, 6, 7], [3], [], 3, s357.1, [.tmp 6, .tmp 7], 520⟩
theorem ok357 : FnM Tryz.prog 357 fun357 := SC.okM s357 rfl (fn := Tryz.f357) (by kernel_rfl) (by kernel_rfl)
noncomputable def s399 : SC (Tryz.f399.body.getD .skip) := SC.mk' (by simp only [Tryz.f399, go_sem]; rfl)
noncomputable def fun399 : Fun := ⟨[0, 1, 2, 3], [2], [], 2, s399.1, [.tmp 3], 0⟩
theorem ok399 : FnM Tryz.prog 399 fun399 := SC.okM s399 rfl (fn := Tryz.f399) (by kernel_rfl) (by kernel_rfl)
noncomputable def s412 : SC (Tryz.f412.body.getD .skip) := SC.mk' (by simp only [Tryz.f412, go_sem]; rfl)
noncomputable def fun412 : Fun := ⟨[0, 1, 2, 6, 16, 4, 5], [2], [], 2, s412.1, [.tmp 4, .tmp 5], 0⟩
theorem ok412 : FnM Tryz.prog 412 fun412 := SC.okM s412 rfl (fn := Tryz.f412) (by kernel_rfl) (by kernel_rfl)
noncomputable def s428 : SC (Tryz.f428.body.getD .skip) := SC.mk' (by simp only [Tryz.f428, go_sem]; rfl)
noncomputable def fun428 : Fun := ⟨[0, 1, 4], [], [], 2, s428.1, [.tmp 4], 195⟩
theorem ok428 : FnM Tryz.prog 428 fun428 := SC.okM s428 rfl (fn := Tryz.f428) (by kernel_rfl) (by kernel_rfl)
end Go.M
