/-
  The codes of functions, as the machine takes them.
  No condition: definitions and lemmas.
-/
import Derived.Test.YtncnaejhbmnkbaaGreatQtyA
set_option linter.all false
set_option maxRecDepth 100000
set_option maxHeartbeats 4000000
namespace Go.M
open Go Go.Proofs
open Go.Eng (SOp SOper SCode sizeP aggP zerosOf bytesP zeroVal stripCode stripOps stripOper strip stripParts kindsOf)

noncomputable def s5 : SC (Tryz.f5.body.getD .skip) := SC.mk' (by simp only [Tryz.f5, go_sem]; rfl)
noncomputable def fun5 : Fun := ⟨[0, 1, 2, 3, 12, 15, 4, 17, 8, 14, 16, 5, 6, 33, 18, 19, 53, 9, 10, 11], [4, 5, 6, 8, 12, 16, 17], [], 4, s5.1, [.cell 8 true 11, .tmp 9, .tmp 10, .tmp 11], 16⟩
theorem ok5 : FnM Tryz.prog 5 fun5 := SC.okM s5 rfl (fn := Tryz.f5) (by kernel_rfl) (by kernel_rfl)
noncomputable def s8 : SC (Tryz.f8.body.getD .skip) := SC.mk' (by simp only [Tryz.f8, go_sem]; rfl)
noncomputable def fun8 : Fun := ⟨[0, 1, 2, 6], [], [], 3, s8.1, [.tmp 6], 0⟩
theorem ok8 : FnM Tryz.prog 8 fun8 := SC.okM s8 rfl (fn := Tryz.f8) (by kernel_rfl) (by kernel_rfl)
noncomputable def s12 : SC (Tryz.f12.body.getD .skip) := SC.mk' (by simp only [Tryz.f12, go_sem]; rfl)
noncomputable def fun12 : Fun := ⟨[0, 2, 9, 3], [2], [], 1, s12.1, [.cell 2 true 2, .tmp 3], 0⟩
theorem ok12 : FnM Tryz.prog 12 fun12 := SC.okM s12 rfl (fn := Tryz.f12) (by kernel_rfl) (by kernel_rfl)
noncomputable def s17 : SC (Tryz.f17.body.getD .skip) := SC.mk' (by simp only [Tryz.f17, go_sem]; rfl)
noncomputable def fun17 : Fun := ⟨[0, 1, 5, 7, 2, 4, 15], [2, 4, 5], [], 2, s17.1, [.cell 4 true 11], 18⟩
theorem ok17 : FnM Tryz.prog 17 fun17 := SC.okM s17 rfl (fn := Tryz.f17) (by kernel_rfl) (by kernel_rfl)
noncomputable def s22 : SC (Tryz.f22.body.getD .skip) := SC.mk' (by simp only [Tryz.f22, go_sem]; rfl)
noncomputable def fun22 : Fun := ⟨[0, 1, 3, 6, 2], [1], [], 1, s22.1, [.tmp 2], 0⟩
theorem ok22 : FnM Tryz.prog 22 fun22 := SC.okM s22 rfl (fn := Tryz.f22) (by kernel_rfl) (by kernel_rfl)
noncomputable def s26 : SC (Tryz.f26.body.getD .skip) := SC.mk' (by simp only [Tryz.f26, go_sem]; rfl)
noncomputable def fun26 : Fun := ⟨[0, 1, 2, 4, 3, 11, 6, 7, 32, 33, 45, 12, 10, 26, 40, 46, 56, 68, 71, 84, 8, 9], [3, 4, 6, 7, 12], [], 3, s26.1, [.cell 6 true 11, .cell 7 true 63, .tmp 8, .tmp 9], 14⟩
theorem ok26 : FnM Tryz.prog 26 fun26 := SC.okM s26 rfl (fn := Tryz.f26) (by kernel_rfl) (by kernel_rfl)
noncomputable def s34 : SC (Tryz.f34.body.getD .skip) := SC.mk' (by simp only [Tryz.f34, go_sem]; rfl)
noncomputable def fun34 : Fun := ⟨[0, 1, 2, 3, 4, 8, 14, 11, 17, 12, 13, 19, 21, 28, 15, 9, 10], [8], [], 4, s34.1, [.cell 8 true 11, .tmp 9, .tmp 10], 1⟩
theorem ok34 : FnM Tryz.prog 34 fun34 := SC.okM s34 rfl (fn := Tryz.f34) (by kernel_rfl) (by kernel_rfl)
noncomputable def s39 : SC (Tryz.f39.body.getD .skip) := SC.mk' (by simp only [Tryz.f39, go_sem]; rfl)
noncomputable def fun39 : Fun := ⟨[0, 1, 4, 6, 7, 14, 22, 5], [4, 6], [], 2, s39.1, [.cell 4 true 26, .tmp 5], 2⟩
theorem ok39 : FnM Tryz.prog 39 fun39 := SC.okM s39 rfl (fn := Tryz.f39) (by kernel_rfl) (by kernel_rfl)
noncomputable def s45 : SC (Tryz.f45.body.getD .skip) := SC.mk' (by simp only [Tryz.f45, go_sem]; rfl)
noncomputable def fun45 : Fun := ⟨[0, 1, 4, 3, 7, 5, 6, 8, 12, 17, 29, 31, 36, 45, 66, 74, 79, 106, 2], [1, 4], [], 1, s45.1, [.tmp 2], 2⟩
theorem ok45 : FnM Tryz.prog 45 fun45 := SC.okM s45 rfl (fn := Tryz.f45) (by kernel_rfl) (by kernel_rfl)
noncomputable def s47 : SC (Tryz.f47.body.getD .skip) := SC.mk' (by simp only [Tryz.f47, go_sem]; rfl)
noncomputable def fun47 : Fun := ⟨[0, 1, 5, 9, 18, 4], [], [], 2, s47.1, [.tmp 4], 0⟩
theorem ok47 : FnM Tryz.prog 47 fun47 := SC.okM s47 rfl (fn := Tryz.f47) (by kernel_rfl) (by kernel_rfl)
noncomputable def s53 : SC (Tryz.f53.body.getD .skip) := SC.mk' (by simp only [Tryz.f53, go_sem]; rfl)
noncomputable def fun53 : Fun := ⟨[0, 1, 2, 6], [], [], 3, s53.1, [.tmp 6], 0⟩
theorem ok53 : FnM Tryz.prog 53 fun53 := SC.okM s53 rfl (fn := Tryz.f53) (by kernel_rfl) (by kernel_rfl)
noncomputable def s58 : SC (Tryz.f58.body.getD .skip) := SC.mk' (by simp only [Tryz.f58, go_sem]; rfl)
noncomputable def fun58 : Fun := ⟨[0, 2], [], [], 1, s58.1, [.tmp 2], 1⟩
theorem ok58 : FnM Tryz.prog 58 fun58 := SC.okM s58 rfl (fn := Tryz.f58) (by kernel_rfl) (by kernel_rfl)
noncomputable def s64 : SC (Tryz.f64.body.getD .skip) := SC.mk' (by simp only [Tryz.f64, go_sem]; rfl)
noncomputable def fun64 : Fun := ⟨[0, 1, 2, 4], [2], [], 2, s64.1, [.tmp 4], 8⟩
theorem ok64 : FnM Tryz.prog 64 fun64 := SC.okM s64 rfl (fn := Tryz.f64) (by kernel_rfl) (by kernel_rfl)
noncomputable def s66 : SC (Tryz.f66.body.getD .skip) := SC.mk' (by simp only [Tryz.f66, go_sem]; rfl)
noncomputable def fun66 : Fun := ⟨[0, 1, 2, 3, 6, 35, 7], [3, 6], [], 3, s66.1, [.cell 6 true 2, .tmp 7], 0⟩
theorem ok66 : FnM Tryz.prog 66 fun66 := SC.okM s66 rfl (fn := Tryz.f66) (by kernel_rfl) (by kernel_rfl)
noncomputable def s68 : SC (Tryz.f68.body.getD .skip) := SC.mk' (by simp only [Tryz.f68, go_sem]; rfl)
noncomputable def fun68 : Fun := ⟨[0, 1, 2, 13, 8, 12, 14, 21, 23, 27, 6], [], [], 3, s68.1, [.tmp 6], 0⟩
theorem ok68 : FnM Tryz.prog 68 fun68 := SC.okM s68 rfl (fn := Tryz.f68) (by kernel_rfl) (by kernel_rfl)
noncomputable def s69 : SC (Tryz.f69.body.getD .skip) := SC.mk' (by simp only [Tryz.f69, go_sem]; rfl)
noncomputable def fun69 : Fun := ⟨[0, 1, 2, 4, 6, 3, 10, 5], [2, 3, 4], [], 2, s69.1, [.cell 4 true 8, .tmp 5], 8⟩
theorem ok69 : FnM Tryz.prog 69 fun69 := SC.okM s69 rfl (fn := Tryz.f69) (by kernel_rfl) (by kernel_rfl)
noncomputable def s72 : SC (Tryz.f72.body.getD .skip) := SC.mk' (by simp only [Tryz.f72, go_sem]; rfl)
noncomputable def fun72 : Fun := ⟨[0, 1, 4, 3, 8, 2], [1], [], 1, s72.1, [.tmp 2], 0⟩
theorem ok72 : FnM Tryz.prog 72 fun72 := SC.okM s72 rfl (fn := Tryz.f72) (by kernel_rfl) (by kernel_rfl)
noncomputable def s76 : SC (Tryz.f76.body.getD .skip) := SC.mk' (by simp only [Tryz.f76, go_sem]; rfl)
noncomputable def fun76 : Fun := ⟨[0, 1, 2], [1], [], 1, s76.1, [.tmp 2], 4⟩
theorem ok76 : FnM Tryz.prog 76 fun76 := SC.okM s76 rfl (fn := Tryz.f76) (by kernel_rfl) (by kernel_rfl)
noncomputable def s77 : SC (Tryz.f77.body.getD .skip) := SC.mk' (by simp only [Tryz.f77, go_sem]; rfl)
noncomputable def fun77 : Fun := ⟨[0, 4, 1, 3, 10, 2], [1], [], 1, s77.1, [.tmp 2], 0⟩
theorem ok77 : FnM Tryz.prog 77 fun77 := SC.okM s77 rfl (fn := Tryz.f77) (by kernel_rfl) (by kernel_rfl)
noncomputable def s85 : SC (Tryz.f85.body.getD .skip) := SC.mk' (by simp only [Tryz.f85, go_sem]; rfl)
noncomputable def fun85 : Fun := ⟨[0, 1, 4], [], [], 2, s85.1, [.tmp 4], 2⟩
theorem ok85 : FnM Tryz.prog 85 fun85 := SC.okM s85 rfl (fn := Tryz.f85) (by kernel_rfl) (by kernel_rfl)
noncomputable def s94 : SC (Tryz.f94.body.getD .skip) := SC.mk' (by simp only [Tryz.f94, go_sem]; rfl)
noncomputable def fun94 : Fun := ⟨[0, 3, 4, 5, 6, 28, 50, 60, 86, 114, 133, 139, 153, 2], [3], [], 1, s94.1, [.tmp 2], 8⟩
theorem ok94 : FnM Tryz.prog 94 fun94 := SC.okM s94 rfl (fn := Tryz.f94) (by kernel_rfl) (by kernel_rfl)
noncomputable def s97 : SC (Tryz.f97.body.getD .skip) := SC.mk' (by simp only [Tryz.f97, go_sem]; rfl)
noncomputable def fun97 : Fun := ⟨[0, 1, 3, 7, 11, 2], [1], [], 1, s97.1, [.tmp 2], 7⟩
theorem ok97 : FnM Tryz.prog 97 fun97 := SC.okM s97 rfl (fn := Tryz.f97) (by kernel_rfl) (by kernel_rfl)
noncomputable def s102 : SC (Tryz.f102.body.getD .skip) := SC.mk' (by simp only [Tryz.f102, go_sem]; rfl)
noncomputable def fun102 : Fun := ⟨[0, 1, 2, 4, 3, 6, 7, 11, 14, 24, 29, 46, 5], [2, 3, 4], [], 2, s102.1, [.cell 4 true 8, .tmp 5], 6⟩
theorem ok102 : FnM Tryz.prog 102 fun102 := SC.okM s102 rfl (fn := Tryz.f102) (by kernel_rfl) (by kernel_rfl)
noncomputable def s134 : SC (Tryz.f134.body.getD .skip) := SC.mk' (by simp only [Tryz.f134, go_sem]; rfl)
noncomputable def fun134 : Fun := ⟨[0, 2], [], [], 1, s134.1, [.tmp 2], 0⟩
theorem ok134 : FnM Tryz.prog 134 fun134 := SC.okM s134 rfl (fn := Tryz.f134) (by kernel_rfl) (by kernel_rfl)
noncomputable def s137 : SC (Tryz.f137.body.getD .skip) := SC.mk' (by simp only [Tryz.f137, go_sem]; rfl)
noncomputable def fun137 : Fun := ⟨[0, 1, 2, 3, 4, 8, 7, 10, 11, 17, 23, 39, 9], [4, 7, 8], [], 4, s137.1, [.cell 8 true 11, .tmp 9], 7⟩
theorem ok137 : FnM Tryz.prog 137 fun137 := SC.okM s137 rfl (fn := Tryz.f137) (by kernel_rfl) (by kernel_rfl)
noncomputable def s141 : SC (Tryz.f141.body.getD .skip) := SC.mk' (by simp only [Tryz.f141, go_sem]; rfl)
noncomputable def fun141 : Fun := ⟨[0, 1, 3, 8, 4, 61, 5, 6, 59, 9, 40, 45, 56, 60, 62, 68, 81, 2], [1, 8], [], 1, s141.1, [.tmp 2], 2⟩
theorem ok141 : FnM Tryz.prog 141 fun141 := SC.okM s141 rfl (fn := Tryz.f141) (by kernel_rfl) (by kernel_rfl)
noncomputable def s142 : SC (Tryz.f142.body.getD .skip) := SC.mk' (by simp only [Tryz.f142, go_sem]; rfl)
noncomputable def fun142 : Fun := ⟨[0, 1, 4, 14, 12, 3, 5, 6, 10, 13, 15, 23, 25, 30, 35, 57, 61, 2], [1, 4], [], 1, s142.1, [.tmp 2], 5⟩
theorem ok142 : FnM Tryz.prog 142 fun142 := SC.okM s142 rfl (fn := Tryz.f142) (by kernel_rfl) (by kernel_rfl)
noncomputable def s150 : SC (Tryz.f150.body.getD .skip) := SC.mk' (by simp only [Tryz.f150, go_sem]; rfl)
noncomputable def fun150 : Fun := ⟨[0, 1, 2, 6, 3], [1, 2], [], 1, s150.1, [.cell 2 true 5, .tmp 3], 0⟩
theorem ok150 : FnM Tryz.prog 150 fun150 := SC.okM s150 rfl (fn := Tryz.f150) (by kernel_rfl) (by kernel_rfl)
noncomputable def s189 : SC (Tryz.f189.body.getD .skip) := SC.mk' (by simp only [Tryz.f189, go_sem]; rfl)
noncomputable def fun189 : Fun := ⟨[0, 2], [], [], 1, s189.1, [.tmp 2], 0⟩
theorem ok189 : FnM Tryz.prog 189 fun189 := SC.okM s189 rfl (fn := Tryz.f189) (by kernel_rfl) (by kernel_rfl)
noncomputable def s190 : SC (Tryz.f190.body.getD .skip) := SC.mk' (by simp only [Tryz.f190, go_sem]; rfl)
noncomputable def fun190 : Fun := ⟨[0, 1, 2, 3, 7, 17, 6], [3], [], 3, s190.1, [.tmp 6], 2⟩
theorem ok190 : FnM Tryz.prog 190 fun190 := SC.okM s190 rfl (fn := Tryz.f190) (by kernel_rfl) (by kernel_rfl)
noncomputable def s199 : SC (Tryz.f199.body.getD .skip) := SC.mk' (by simp only [Tryz.f199, go_sem]; rfl)
noncomputable def fun199 : Fun := ⟨[0, 1, 2, 3, 24, 9, 45, 6, 7, 22, 43, 11, 19, 23, 25, 37, 44, 46, 53], [3, 9, 11], [], 3, s199.1, [.tmp 6, .tmp 7], 9⟩
theorem ok199 : FnM Tryz.prog 199 fun199 := SC.okM s199 rfl (fn := Tryz.f199) (by kernel_rfl) (by kernel_rfl)
noncomputable def s205 : SC (Tryz.f205.body.getD .skip) := SC.mk' (by simp only [Tryz.f205, go_sem]; rfl)
noncomputable def fun205 : Fun := ⟨[0, 1, 5, 2], [1], [], 1, s205.1, [.tmp 2], 3⟩
theorem ok205 : FnM Tryz.prog 205 fun205 := SC.okM s205 rfl (fn := Tryz.f205) (by kernel_rfl) (by kernel_rfl)
noncomputable def s209 : SC (Tryz.f209.body.getD .skip) := SC.mk' (by simp only [Tryz.f209, go_sem]; rfl)
noncomputable def fun209 : Fun := ⟨[0, 4, 2], [], [], 1, s209.1, [.tmp 2], 0⟩
theorem ok209 : FnM Tryz.prog 209 fun209 := SC.okM s209 rfl (fn := Tryz.f209) (by kernel_rfl) (by kernel_rfl)
noncomputable def s262 : SC (Tryz.f262.body.getD .skip) := SC.mk' (by simp only [Tryz.f262, go_sem]; rfl)
noncomputable def fun262 : Fun := ⟨[0, 1, 8, 5, 7, 9, 16, 4], [], [], 2, s262.1, [.tmp 4], 1⟩
theorem ok262 : FnM Tryz.prog 262 fun262 := SC.okM s262 rfl (fn := Tryz.f262) (by kernel_rfl) (by kernel_rfl)
noncomputable def s271 : SC (Tryz.f271.body.getD .skip) := SC.mk' (by simp only [Tryz.f271, go_sem]; rfl)
noncomputable def fun271 : Fun := ⟨[0, 1, 2, 4], [2], [], 2, s271.1, [.tmp 4], 0⟩
theorem ok271 : FnM Tryz.prog 271 fun271 := SC.okM s271 rfl (fn := Tryz.f271) (by kernel_rfl) (by kernel_rfl)
noncomputable def s279 : SC (Tryz.f279.body.getD .skip) := SC.mk' (by simp only [Tryz.f279, go_sem]; rfl)
noncomputable def fun279 : Fun := ⟨[0, 1, 2, 3, 4], [2], [], 2, s279.1, [.tmp 4], 2⟩
theorem ok279 : FnM Tryz.prog 279 fun279 := SC.okM s279 rfl (fn := Tryz.f279) (by kernel_rfl) (by kernel_rfl)
noncomputable def s303 : SC (Tryz.f303.body.getD .skip) := SC.mk' (by simp only [Tryz.f303, go_sem]; rfl)
noncomputable def fun303 : Fun := ⟨[0, 1, 2, 6, 16, 4, 5], [2], [], 2, s303.1, [.tmp 4, .tmp 5], 0⟩
theorem ok303 : FnM Tryz.prog 303 fun303 := SC.okM s303 rfl (fn := Tryz.f303) (by kernel_rfl) (by kernel_rfl)
end Go.M
