/-
  The codes of functions, as the machine takes them.
  No condition: definitions and lemmas.
-/
import Derived.Test.YtgnhijkjlebcmaaGreatQtyO
set_option linter.all false
set_option maxRecDepth 100000
set_option maxHeartbeats 4000000
namespace Go.M
open Go Go.Proofs
open Go.Eng (SOp SOper SCode sizeP aggP zerosOf bytesP zeroVal stripCode stripOps stripOper strip stripParts kindsOf kinds2)
noncomputable def s6 : SC (Tryz.f6.body.getD .skip) := SC.mk' (by simp only [Tryz.f6, go_sem]; rfl)
noncomputable def fun6 : Fun := ⟨[0, 1, 5, 6, 7, 8, 10, 13, 9, 14, 23, 12, 47, 54, 15, 75, 4], [5, 6, 9, 14], [], 2, s6.1, [.tmp 4], 1495⟩
theorem ok6 : FnM Tryz.prog 6 fun6 := SC.okM s6 rfl (fn := Tryz.f6) (by kernel_rfl) (by kernel_rfl)
noncomputable def s46 : SC (Tryz.f46.body.getD .skip) := SC.mk' (by simp only [Tryz.f46, go_sem]; rfl)
noncomputable def fun46 : Fun := ⟨[0, 1, 2, 4, 12, 6, 7, 11, 13, 3, 26, 8, 9, 10], [3, 4, 6, 7, 11, 12], [], 3, s46.1, [.cell 6 true 11, .cell 7 true 63, .tmp 8, .tmp 9, .tmp 10], 845⟩
theorem ok46 : FnM Tryz.prog 46 fun46 := SC.okM s46 rfl (fn := Tryz.f46) (by kernel_rfl) (by kernel_rfl)
noncomputable def s65 : SC (Tryz.f65.body.getD .skip) := SC.mk' (by simp only [Tryz.f65, go_sem]; rfl)
noncomputable def fun65 : Fun := ⟨[0, 2, 9, 3], [2], [], 1, s65.1, [.cell 2 true 2, .tmp 3], 0⟩
theorem ok65 : FnM Tryz.prog 65 fun65 := SC.okM s65 rfl (fn := Tryz.f65) (by kernel_rfl) (by kernel_rfl)
noncomputable def s73 : SC (Tryz.f73.body.getD .skip) := SC.mk' (by simp only [Tryz.f73, go_sem]; rfl)
noncomputable def fun73 : Fun := ⟨[0, 1, 2, 3, 4, 29, 7, 27, 10, 24, 28, 30, 6, 51, 61, 67, 5], [2, 3, 4], [], 2, s73.1, [.cell 4 true 26, .tmp 5], 195⟩
theorem ok73 : FnM Tryz.prog 73 fun73 := SC.okM s73 rfl (fn := Tryz.f73) (by kernel_rfl) (by kernel_rfl)
noncomputable def s75 : SC (Tryz.f75.body.getD .skip) := SC.mk' (by simp only [Tryz.f75, go_sem]; rfl)
noncomputable def fun75 : Fun := ⟨[0, 1, 2, 6], [], [], 3, s75.1, [.tmp 6], 0⟩
theorem ok75 : FnM Tryz.prog 75 fun75 := SC.okM s75 rfl (fn := Tryz.f75) (by kernel_rfl) (by kernel_rfl)
noncomputable def s91 : SC (Tryz.f91.body.getD .skip) := SC.mk' (by simp only [Tryz.f91, go_sem]; rfl)
noncomputable def fun91 : Fun := ⟨[0, 2], [], [], 1, s91.1, [.tmp 2], 65⟩
theorem ok91 : FnM Tryz.prog 91 fun91 := SC.okM s91 rfl (fn := Tryz.f91) (by kernel_rfl) (by kernel_rfl)
noncomputable def s119 : SC (Tryz.f119.body.getD .skip) := SC.mk' (by simp only [Tryz.f119, go_sem]; rfl)
noncomputable def fun119 : Fun := ⟨[0, 17, 2, 5, 15, 4, 13, 16, 18, 40, 3], [2], [], 1, s119.1, [.cell 2 true 5, .tmp 3], 65⟩
theorem ok119 : FnM Tryz.prog 119 fun119 := SC.okM s119 rfl (fn := Tryz.f119) (by kernel_rfl) (by kernel_rfl)
noncomputable def s123 : SC (Tryz.f123.body.getD .skip) := SC.mk' (by simp only [Tryz.f123, go_sem]; rfl)
noncomputable def fun123 : Fun := ⟨[0, 1, 2], [1, 2], [], 1, s123.1, [.cell 2 true 6], 0⟩
theorem ok123 : FnM Tryz.prog 123 fun123 := SC.okM s123 rfl (fn := Tryz.f123) (by kernel_rfl) (by kernel_rfl)
noncomputable def s137 : SC (Tryz.f137.body.getD .skip) := SC.mk' (by simp only [Tryz.f137, go_sem]; rfl)
noncomputable def fun137 : Fun := ⟨[0, 1, 2, 3, 4, 6, 11, 5], [2, 3, 4], [], 2, s137.1, [.cell 4 true 3, .tmp 5], 260⟩
theorem ok137 : FnM Tryz.prog 137 fun137 := SC.okM s137 rfl (fn := Tryz.f137) (by kernel_rfl) (by kernel_rfl)
noncomputable def s149 : SC (Tryz.f149.body.getD .skip) := SC.mk' (by simp only [Tryz.f149, go_sem]; rfl)
noncomputable def fun149 : Fun := ⟨[0, 1, 2, 4], [2], [], 2, s149.1, [.tmp 4], 520⟩
theorem ok149 : FnM Tryz.prog 149 fun149 := SC.okM s149 rfl (fn := Tryz.f149) (by kernel_rfl) (by kernel_rfl)
noncomputable def s184 : SC (Tryz.f184.body.getD .skip) := SC.mk' (by simp only [Tryz.f184, go_sem]; rfl)
noncomputable def fun184 : Fun := ⟨[0, 3, 4, 5, 6, 28, 50, 60, 86, 114, 133, 139, 153, 2], [3], [], 1, s184.1, [.tmp 2], 520⟩
theorem ok184 : FnM Tryz.prog 184 fun184 := SC.okM s184 rfl (fn := Tryz.f184) (by kernel_rfl) (by kernel_rfl)
noncomputable def s194 : SC (Tryz.f194.body.getD .skip) := SC.mk' (by simp only [Tryz.f194, go_sem]; rfl)
noncomputable def fun194 : Fun := ⟨[0, 1, 2, 4, 6, 7, 15, 3, 9, 11, 56, 12, 13, 16, 10, 32, 36, 47, 49, 73, 90, 94, 101, 109, 8], [3, 4, 6, 7, 9, 12], [], 3, s194.1, [.cell 6 true 11, .cell 7 true 5, .tmp 8], 130⟩
theorem ok194 : FnM Tryz.prog 194 fun194 := SC.okM s194 rfl (fn := Tryz.f194) (by kernel_rfl) (by kernel_rfl)
noncomputable def s195 : SC (Tryz.f195.body.getD .skip) := SC.mk' (by simp only [Tryz.f195, go_sem]; rfl)
noncomputable def fun195 : Fun := ⟨[0, 1, 2, 4], [2, 4], [], 2, s195.1, [.cell 4 true 26], 0⟩
theorem ok195 : FnM Tryz.prog 195 fun195 := SC.okM s195 rfl (fn := Tryz.f195) (by kernel_rfl) (by kernel_rfl)
noncomputable def s196 : SC (Tryz.f196.body.getD .skip) := SC.mk' (by simp only [Tryz.f196, go_sem]; rfl)
noncomputable def fun196 : Fun := ⟨[0, 1, 6, 3, 5, 2, 12, 24, 4], [2, 3], [], 2, s196.1, [.tmp 4], 0⟩
theorem ok196 : FnM Tryz.prog 196 fun196 := SC.okM s196 rfl (fn := Tryz.f196) (by kernel_rfl) (by kernel_rfl)
noncomputable def s204 : SC (Tryz.f204.body.getD .skip) := SC.mk' (by simp only [Tryz.f204, go_sem]; rfl)
noncomputable def fun204 : Fun := ⟨[0, 1, 3, 5, 8, 4, 6, 7, 39, 44, 58, 64, 73, 78, 89, 2], [1], [], 1, s204.1, [.tmp 2], 130⟩
theorem ok204 : FnM Tryz.prog 204 fun204 := SC.okM s204 rfl (fn := Tryz.f204) (by kernel_rfl) (by kernel_rfl)
noncomputable def s213 : SC (Tryz.f213.body.getD .skip) := SC.mk' (by simp only [Tryz.f213, go_sem]; rfl)
noncomputable def fun213 : Fun := ⟨[0, 1, 2, 3, 5, 6, 10, 15, 22, 28, 4], [2, 3], [], 2, s213.1, [.tmp 4], 195⟩
theorem ok213 : FnM Tryz.prog 213 fun213 := SC.okM s213 rfl (fn := Tryz.f213) (by kernel_rfl) (by kernel_rfl)
noncomputable def s222 : SC (Tryz.f222.body.getD .skip) := SC.mk' (by simp only [Tryz.f222, go_sem]; rfl)
noncomputable def fun222 : Fun := ⟨[0, 5, 8, 3, 6, 7, 9, 27, 2], [5], [], 1, s222.1, [.tmp 2], 0⟩
theorem ok222 : FnM Tryz.prog 222 fun222 := SC.okM s222 rfl (fn := Tryz.f222) (by kernel_rfl) (by kernel_rfl)
noncomputable def s233 : SC (Tryz.f233.body.getD .skip) := SC.mk' (by simp only [Tryz.f233, go_sem]; rfl)
noncomputable def fun233 : Fun := ⟨[0, 1, 2, 3, 6, 35, 7], [3, 6], [], 3, s233.1, [.cell 6 true 2, .tmp 7], 0⟩
theorem ok233 : FnM Tryz.prog 233 fun233 := SC.okM s233 rfl (fn := Tryz.f233) (by kernel_rfl) (by kernel_rfl)
noncomputable def s238 : SC (Tryz.f238.body.getD .skip) := SC.mk' (by simp only [Tryz.f238, go_sem]; rfl)
noncomputable def fun238 : Fun := ⟨[0, 1, 2, 3, 4, 12, 10, 13, 23, 11], [10, 12], [], 5, s238.1, [.cell 10 true 7, .tmp 11], 130⟩
theorem ok238 : FnM Tryz.prog 238 fun238 := SC.okM s238 rfl (fn := Tryz.f238) (by kernel_rfl) (by kernel_rfl)
noncomputable def s296 : SC (Tryz.f296.body.getD .skip) := SC.mk' (by simp only [Tryz.f296, go_sem]; rfl)
noncomputable def fun296 : Fun := ⟨[0, 1, 2, 3, 6, 22, 27, 7, 8], [3, 6], [], 3, s296.1, [.cell 6 true 11, .tmp 7, .tmp 8], 65⟩
theorem ok296 : FnM Tryz.prog 296 fun296 := SC.okM s296 rfl (fn := Tryz.f296) (by kernel_rfl) (by kernel_rfl)
noncomputable def s301 : SC (Tryz.f301.body.getD .skip) := SC.mk' (by simp only [Tryz.f301, go_sem]; rfl)
noncomputable def fun301 : Fun := ⟨[0, 1, 2, 4, 9, 5], [2, 4], [], 2, s301.1, [.cell 4 true 8, .tmp 5], 65⟩
theorem ok301 : FnM Tryz.prog 301 fun301 := SC.okM s301 rfl (fn := Tryz.f301) (by kernel_rfl) (by kernel_rfl)
noncomputable def s326 : SC (Tryz.f326.body.getD .skip) := SC.mk' (by simp only [Tryz.f326, go_sem]; rfl)
noncomputable def fun326 : Fun := ⟨[0, 1, 2, 6], [], [], 3, s326.1, [.tmp 6], 0⟩
theorem ok326 : FnM Tryz.prog 326 fun326 := SC.okM s326 rfl (fn := Tryz.f326) (by kernel_rfl) (by kernel_rfl)
noncomputable def s330 : SC (Tryz.f330.body.getD .skip) := SC.mk' (by simp only [Tryz.f330, go_sem]; rfl)
noncomputable def fun330 : Fun := ⟨[0, 1, 2, 3], [2], [], 2, s330.1, [.tmp 3], 0⟩
theorem ok330 : FnM Tryz.prog 330 fun330 := SC.okM s330 rfl (fn := Tryz.f330) (by kernel_rfl) (by kernel_rfl)
noncomputable def s353 : SC (Tryz.f353.body.getD .skip) := SC.mk' (by simp only [Tryz.f353, go_sem]; rfl)
noncomputable def fun353 : Fun := ⟨[0, 1, 5, 6, 7, 12, 19, 29, 4], [], [], 2, s353.1, [.tmp 4], 455⟩
theorem ok353 : FnM Tryz.prog 353 fun353 := SC.okM s353 rfl (fn := Tryz.f353) (by kernel_rfl) (by kernel_rfl)
noncomputable def s378 : SC (Tryz.f378.body.getD .skip) := SC.mk' (by simp only [Tryz.f378, go_sem]; rfl)
noncomputable def fun378 : Fun := ⟨[0, 1, 2, 3, 15, 23, 6], [3], [], 3, s378.1, [.tmp 6], 65⟩
theorem ok378 : FnM Tryz.prog 378 fun378 := SC.okM s378 rfl (fn := Tryz.f378) (by kernel_rfl) (by kernel_rfl)
noncomputable def s379 : SC (Tryz.f379.body.getD .skip) := SC.mk' (by simp only [Tryz.f379, go_sem]; rfl)
noncomputable def fun379 : Fun := ⟨[0, 1, 2, 12, 3, 10, 13, 8, 9, 11, 26, 34, 52, 58, 67, 6, 7], [3], [], 3, s379.1, [.tmp 6, .tmp 7], 520⟩
theorem ok379 : FnM Tryz.prog 379 fun379 := SC.okM s379 rfl (fn := Tryz.f379) (by kernel_rfl) (by kernel_rfl)
noncomputable def s380 : SC (Tryz.f380.body.getD .skip) := SC.mk' (by simp only [Tryz.f380, go_sem]; rfl)
noncomputable def fun380 : Fun := ⟨[0, 1, 2, 6, 3], [1, 2], [], 1, s380.1, [.cell 2 true 5, .tmp 3], 0⟩
theorem ok380 : FnM Tryz.prog 380 fun380 := SC.okM s380 rfl (fn := Tryz.f380) (by kernel_rfl) (by kernel_rfl)
noncomputable def s389 : SC (Tryz.f389.body.getD .skip) := SC.mk' (by simp only [Tryz.f389, go_sem]; rfl)
noncomputable def fun389 : Fun := ⟨[0, 1, 9, 7, 8, 10, 6, 4], [], [], 2, s389.1, [.tmp 4], 0⟩
theorem ok389 : FnM Tryz.prog 389 fun389 := SC.okM s389 rfl (fn := Tryz.f389) (by kernel_rfl) (by kernel_rfl)
noncomputable def s397 : SC (Tryz.f397.body.getD .skip) := SC.mk' (by simp only [Tryz.f397, go_sem]; rfl)
noncomputable def fun397 : Fun := ⟨[0, 2], [], [], 1, s397.1, [.tmp 2], 0⟩
theorem ok397 : FnM Tryz.prog 397 fun397 := SC.okM s397 rfl (fn := Tryz.f397) (by kernel_rfl) (by kernel_rfl)
noncomputable def s425 : SC (Tryz.f425.body.getD .skip) := SC.mk' (by simp only [Tryz.f425, go_sem]; rfl)
noncomputable def fun425 : Fun := ⟨[0, 1, 3, 4], [], [], 2, s425.1, [.tmp 4], 195⟩
theorem ok425 : FnM Tryz.prog 425 fun425 := SC.okM s425 rfl (fn := Tryz.f425) (by kernel_rfl) (by kernel_rfl)
noncomputable def s451 : SC (Tryz.f451.body.getD .skip) := SC.mk' (by simp only [Tryz.f451, go_sem]; rfl)
noncomputable def fun451 : Fun := ⟨[0, 1, 2, 7, 6, 4, 5, 22], [2, 4, 5, 6], [], 2, s451.1, [.cell 4 true 3, .cell 5 true 7], 130⟩
theorem ok451 : FnM Tryz.prog 451 fun451 := SC.okM s451 rfl (fn := Tryz.f451) (by kernel_rfl) (by kernel_rfl)
end Go.M
