/-
  The codes of functions, as the machine takes them.
  No condition: definitions and lemmas.
-/
import Derived.Test.YtfffmopgodknpaaGreatQtyB
set_option linter.all false
set_option maxRecDepth 100000
set_option maxHeartbeats 4000000
namespace Go.M
open Go Go.Proofs
open Go.Eng (SOp SOper SCode sizeP aggP zerosOf bytesP zeroVal stripCode stripOps stripOper strip stripParts kindsOf)

noncomputable def s26 : SC (Tryz.f26.body.getD .skip) := SC.mk' (by simp only [Tryz.f26, go_sem]; rfl)
noncomputable def fun26 : Fun := ⟨[0, 1, 2, 3, 12, 15, 4, 17, 8, 14, 16, 5, 6, 33, 18, 19, 53, 9, 10, 11], [4, 5, 6, 8, 12, 16, 17], [], 4, s26.1, [.cell 8 true 11, .tmp 9, .tmp 10, .tmp 11], 1105⟩
theorem ok26 : FnM Tryz.prog 26 fun26 := SC.okM s26 rfl (fn := Tryz.f26) (by kernel_rfl) (by kernel_rfl)
noncomputable def s27 : SC (Tryz.f27.body.getD .skip) := SC.mk' (by simp only [Tryz.f27, go_sem]; rfl)
noncomputable def fun27 : Fun := ⟨[0, 1, 2], [1], [], 1, s27.1, [.tmp 2], 260⟩
theorem ok27 : FnM Tryz.prog 27 fun27 := SC.okM s27 rfl (fn := Tryz.f27) (by kernel_rfl) (by kernel_rfl)
noncomputable def s28 : SC (Tryz.f28.body.getD .skip) := SC.mk' (by simp only [Tryz.f28, go_sem]; rfl)
noncomputable def fun28 : Fun := ⟨[1, 2, 3, 4, 5, 0], [1, 2], [], 0, s28.1, [.tmp 0], 1235⟩
theorem ok28 : FnM Tryz.prog 28 fun28 := SC.okM s28 rfl (fn := Tryz.f28) (by kernel_rfl) (by kernel_rfl)
noncomputable def s29 : SC (Tryz.f29.body.getD .skip) := SC.mk' (by simp only [Tryz.f29, go_sem]; rfl)
noncomputable def fun29 : Fun := ⟨[0, 1, 6, 7, 4, 8, 2, 57, 78, 90, 3], [1, 2, 4, 6, 8], [], 1, s29.1, [.cell 2 true 11, .tmp 3], 130⟩
theorem ok29 : FnM Tryz.prog 29 fun29 := SC.okM s29 rfl (fn := Tryz.f29) (by kernel_rfl) (by kernel_rfl)
noncomputable def s60 : SC (Tryz.f60.body.getD .skip) := SC.mk' (by simp only [Tryz.f60, go_sem]; rfl)
noncomputable def fun60 : Fun := ⟨[0, 1, 6, 7, 4, 8, 19, 24, 46, 5], [4, 6], [], 2, s60.1, [.cell 4 true 3, .tmp 5], 0⟩
theorem ok60 : FnM Tryz.prog 60 fun60 := SC.okM s60 rfl (fn := Tryz.f60) (by kernel_rfl) (by kernel_rfl)
noncomputable def s62 : SC (Tryz.f62.body.getD .skip) := SC.mk' (by simp only [Tryz.f62, go_sem]; rfl)
noncomputable def fun62 : Fun := ⟨[0, 1, 2, 6, 8, 9, 16, 22, 7], [6, 8], [], 3, s62.1, [.cell 6 true 8, .tmp 7], 65⟩
theorem ok62 : FnM Tryz.prog 62 fun62 := SC.okM s62 rfl (fn := Tryz.f62) (by kernel_rfl) (by kernel_rfl)
noncomputable def s63 : SC (Tryz.f63.body.getD .skip) := SC.mk' (by simp only [Tryz.f63, go_sem]; rfl)
noncomputable def fun63 : Fun := ⟨[0, 2, 9, 3], [2], [], 1, s63.1, [.cell 2 true 2, .tmp 3], 0⟩
theorem ok63 : FnM Tryz.prog 63 fun63 := SC.okM s63 rfl (fn := Tryz.f63) (by kernel_rfl) (by kernel_rfl)
noncomputable def s86 : SC (Tryz.f86.body.getD .skip) := SC.mk' (by simp only [Tryz.f86, go_sem]; rfl)
noncomputable def fun86 : Fun := ⟨[0], [0], [], 0, s86.1, [.cell 0 true 4], 0⟩
theorem ok86 : FnM Tryz.prog 86 fun86 := SC.okM s86 rfl (fn := Tryz.f86) (by kernel_rfl) (by kernel_rfl)
noncomputable def s93 : SC (Tryz.f93.body.getD .skip) := SC.mk' (by simp only [Tryz.f93, go_sem]; rfl)
noncomputable def fun93 : Fun := ⟨[0, 1, 4], [], [], 2, s93.1, [.tmp 4], 65⟩
theorem ok93 : FnM Tryz.prog 93 fun93 := SC.okM s93 rfl (fn := Tryz.f93) (by kernel_rfl) (by kernel_rfl)
noncomputable def s100 : SC (Tryz.f100.body.getD .skip) := SC.mk' (by simp only [Tryz.f100, go_sem]; rfl)
noncomputable def fun100 : Fun := ⟨[0, 1, 3, 2, 4, 6, 5], [2, 3, 4], [], 2, s100.1, [.cell 4 true 63, .tmp 5], 390⟩
theorem ok100 : FnM Tryz.prog 100 fun100 := SC.okM s100 rfl (fn := Tryz.f100) (by kernel_rfl) (by kernel_rfl)
noncomputable def s102 : SC (Tryz.f102.body.getD .skip) := SC.mk' (by simp only [Tryz.f102, go_sem]; rfl)
noncomputable def fun102 : Fun := ⟨[0, 1, 3, 5, 8, 4, 6, 7, 39, 44, 58, 64, 73, 78, 89, 2], [1], [], 1, s102.1, [.tmp 2], 130⟩
theorem ok102 : FnM Tryz.prog 102 fun102 := SC.okM s102 rfl (fn := Tryz.f102) (by kernel_rfl) (by kernel_rfl)
noncomputable def s137 : SC (Tryz.f137.body.getD .skip) := SC.mk' (by simp only [Tryz.f137, go_sem]; rfl)
noncomputable def fun137 : Fun := ⟨[0, 3, 31, 2], [], [], 1, s137.1, [.tmp 2], 130⟩
theorem ok137 : FnM Tryz.prog 137 fun137 := SC.okM s137 rfl (fn := Tryz.f137) (by kernel_rfl) (by kernel_rfl)
noncomputable def s140 : SC (Tryz.f140.body.getD .skip) := SC.mk' (by simp only [Tryz.f140, go_sem]; rfl)
noncomputable def fun140 : Fun := ⟨[0, 3, 6, 4, 5, 44, 71, 106, 134, 156, 2], [4, 5], [], 1, s140.1, [.tmp 2], 715⟩
theorem ok140 : FnM Tryz.prog 140 fun140 := SC.okM s140 rfl (fn := Tryz.f140) (by kernel_rfl) (by kernel_rfl)
noncomputable def s148 : SC (Tryz.f148.body.getD .skip) := SC.mk' (by simp only [Tryz.f148, go_sem]; rfl)
noncomputable def fun148 : Fun := ⟨[0, 1, 2, 6, 7, 11, 15, 4, 5], [2], [], 2, s148.1, [.tmp 4, .tmp 5], 0⟩
theorem ok148 : FnM Tryz.prog 148 fun148 := SC.okM s148 rfl (fn := Tryz.f148) (by kernel_rfl) (by kernel_rfl)
noncomputable def s156 : SC (Tryz.f156.body.getD .skip) := SC.mk' (by simp only [Tryz.f156, go_sem]; rfl)
noncomputable def fun156 : Fun := ⟨[0, 1, 38, 42, 2], [1], [], 1, s156.1, [.tmp 2], 65⟩
theorem ok156 : FnM Tryz.prog 156 fun156 := SC.okM s156 rfl (fn := Tryz.f156) (by kernel_rfl) (by kernel_rfl)
noncomputable def s200 : SC (Tryz.f200.body.getD .skip) := SC.mk' (by simp only [Tryz.f200, go_sem]; rfl)
noncomputable def fun200 : Fun := ⟨[0, 1, 2, 4, 6, 7, 10, 3, 20, 11, 30, 38, 8], [3, 4, 6, 7], [], 3, s200.1, [.cell 6 true 11, .cell 7 true 5, .tmp 8], 260⟩
theorem ok200 : FnM Tryz.prog 200 fun200 := SC.okM s200 rfl (fn := Tryz.f200) (by kernel_rfl) (by kernel_rfl)
noncomputable def s201 : SC (Tryz.f201.body.getD .skip) := SC.mk' (by simp only [Tryz.f201, go_sem]; rfl)
noncomputable def fun201 : Fun := ⟨[0, 1, 2], [], [], 1, s201.1, [.tmp 2], 195⟩
theorem ok201 : FnM Tryz.prog 201 fun201 := SC.okM s201 rfl (fn := Tryz.f201) (by kernel_rfl) (by kernel_rfl)
noncomputable def s207 : SC (Tryz.f207.body.getD .skip) := SC.mk' (by simp only [Tryz.f207, go_sem]; rfl)
noncomputable def fun207 : Fun := ⟨[0, 4, 2], [], [], 1, s207.1, [.tmp 2], 0⟩
theorem ok207 : FnM Tryz.prog 207 fun207 := SC.okM s207 rfl (fn := Tryz.f207) (by kernel_rfl) (by kernel_rfl)
noncomputable def s219 : SC (Tryz.f219.body.getD .skip) := SC.mk' (by simp only [Tryz.f219, go_sem]; rfl)
noncomputable def fun219 : Fun := ⟨[0, 1, 2], [1], [], 1, s219.1, [.tmp 2], 65⟩
theorem ok219 : FnM Tryz.prog 219 fun219 := SC.okM s219 rfl (fn := Tryz.f219) (by kernel_rfl) (by kernel_rfl)
noncomputable def s236 : SC (Tryz.f236.body.getD .skip) := SC.mk' (by simp only [Tryz.f236, go_sem]; rfl)
noncomputable def fun236 : Fun := ⟨[0, 1, 2, 4], [2], [], 2, s236.1, [.tmp 4], 520⟩
theorem ok236 : FnM Tryz.prog 236 fun236 := SC.okM s236 rfl (fn := Tryz.f236) (by kernel_rfl) (by kernel_rfl)
noncomputable def s239 : SC (Tryz.f239.body.getD .skip) := SC.mk' (by simp only [Tryz.f239, go_sem]; rfl)
noncomputable def fun239 : Fun := ⟨[0, 1, 2, 3, 4, 12, 10, 13, 23, 11], [10, 12], [], 5, s239.1, [.cell 10 true 7, .tmp 11], 130⟩
theorem ok239 : FnM Tryz.prog 239 fun239 := SC.okM s239 rfl (fn := Tryz.f239) (by kernel_rfl) (by kernel_rfl)
noncomputable def s240 : SC (Tryz.f240.body.getD .skip) := SC.mk' (by simp only [Tryz.f240, go_sem]; rfl)
noncomputable def fun240 : Fun := ⟨[0, 1, 2, 13, 8, 12, 14, 21, 23, 27, 6], [], [], 3, s240.1, [.tmp 6], 0⟩
theorem ok240 : FnM Tryz.prog 240 fun240 := SC.okM s240 rfl (fn := Tryz.f240) (by kernel_rfl) (by kernel_rfl)
noncomputable def s241 : SC (Tryz.f241.body.getD .skip) := SC.mk' (by simp only [Tryz.f241, go_sem]; rfl)
noncomputable def fun241 : Fun := ⟨[0, 1, 2, 4, 6, 3, 10, 5], [2, 3, 4], [], 2, s241.1, [.cell 4 true 8, .tmp 5], 845⟩
theorem ok241 : FnM Tryz.prog 241 fun241 := SC.okM s241 rfl (fn := Tryz.f241) (by kernel_rfl) (by kernel_rfl)
noncomputable def s307 : SC (Tryz.f307.body.getD .skip) := SC.mk' (by simp only [Tryz.f307, go_sem]; rfl)
noncomputable def fun307 : Fun := ⟨[0, 2], [], [], 1, s307.1, [.tmp 2], 0⟩
theorem ok307 : FnM Tryz.prog 307 fun307 := SC.okM s307 rfl (fn := Tryz.f307) (by kernel_rfl) (by kernel_rfl)
noncomputable def s309 : SC (Tryz.f309.body.getD .skip) := SC.mk' (by simp only [Tryz.f309, go_sem]; rfl)
noncomputable def fun309 : Fun := ⟨[0, 1, 2, 4], [2], [], 2, s309.1, [.tmp 4], 0⟩
theorem ok309 : FnM Tryz.prog 309 fun309 := SC.okM s309 rfl (fn := Tryz.f309) (by kernel_rfl) (by kernel_rfl)
noncomputable def s318 : SC (Tryz.f318.body.getD .skip) := SC.mk' (by simp only [Tryz.f318, go_sem]; rfl)
noncomputable def fun318 : Fun := ⟨[0, 1, 4, 14, 12, 3, 5, 6, 10, 13, 15, 23, 25, 30, 35, 57, 61, 2], [1, 4], [], 1, s318.1, [.tmp 2], 325⟩
theorem ok318 : FnM Tryz.prog 318 fun318 := SC.okM s318 rfl (fn := Tryz.f318) (by kernel_rfl) (by kernel_rfl)
noncomputable def s323 : SC (Tryz.f323.body.getD .skip) := SC.mk' (by simp only [Tryz.f323, go_sem]; rfl)
noncomputable def fun323 : Fun := ⟨[0, 4, 2], [], [], 1, s323.1, [.tmp 2], 0⟩
theorem ok323 : FnM Tryz.prog 323 fun323 := SC.okM s323 rfl (fn := Tryz.f323) (by kernel_rfl) (by kernel_rfl)
noncomputable def s324 : SC (Tryz.f324.body.getD .skip) := SC.mk' (by simp only [Tryz.f324, go_sem]; rfl)
noncomputable def fun324 : Fun := ⟨[0, 1, 2, 3, 4, 6, 11, 5], [2, 3, 4], [], 2, s324.1, [.cell 4 true 3, .tmp 5], 715⟩
theorem ok324 : FnM Tryz.prog 324 fun324 := SC.okM s324 rfl (fn := Tryz.f324) (by kernel_rfl) (by kernel_rfl)
noncomputable def s326 : SC (Tryz.f326.body.getD .skip) := SC.mk' (by simp only [Tryz.f326, go_sem]; rfl)
noncomputable def fun326 : Fun := ⟨[0, 1, 2, 4], [2], [], 2, s326.1, [.tmp 4], 0⟩
theorem ok326 : FnM Tryz.prog 326 fun326 := SC.okM s326 rfl (fn := Tryz.f326) (by kernel_rfl) (by kernel_rfl)
noncomputable def s331 : SC (Tryz.f331.body.getD .skip) := SC.mk' (by simp only [Tryz.f331, go_sem]; rfl)
noncomputable def fun331 : Fun := ⟨[0, 1, 9, 7, 8, 10, 6, 4], [], [], 2, s331.1, [.tmp 4], 0⟩
theorem ok331 : FnM Tryz.prog 331 fun331 := SC.okM s331 rfl (fn := Tryz.f331) (by kernel_rfl) (by kernel_rfl)
noncomputable def s333 : SC (Tryz.f333.body.getD .skip) := SC.mk' (by simp only [Tryz.f333, go_sem]; rfl)
noncomputable def fun333 : Fun := ⟨[0, 1, 4], [], [], 2, s333.1, [.tmp 4], 130⟩
theorem ok333 : FnM Tryz.prog 333 fun333 := SC.okM s333 rfl (fn := Tryz.f333) (by kernel_rfl) (by kernel_rfl)
noncomputable def s370 : SC (Tryz.f370.body.getD .skip) := SC.mk' (by simp only [Tryz.f370, go_sem]; rfl)
noncomputable def fun370 : Fun := ⟨[0, 1, 2, 3, 5, 6, 10, 15, 17, 24, 4], [2, 3], [], 2, s370.1, [.tmp 4], 650⟩
theorem ok370 : FnM Tryz.prog 370 fun370 := SC.okM s370 rfl (fn := Tryz.f370) (by kernel_rfl) (by kernel_rfl)
noncomputable def s384 : SC (Tryz.f384.body.getD .skip) := SC.mk' (by simp only [Tryz.f384, go_sem]; rfl)
noncomputable def fun384 : Fun := ⟨[0, 1, 2, 3, 6, 11], [3, 6], [], 3, s384.1, [.cell 6 true 11], 65⟩
theorem ok384 : FnM Tryz.prog 384 fun384 := SC.okM s384 rfl (fn := Tryz.f384) (by kernel_rfl) (by kernel_rfl)
noncomputable def s394 : SC (Tryz.f394.body.getD .skip) := SC.mk' (by simp only [Tryz.f394, go_sem]; rfl)
noncomputable def fun394 : Fun := ⟨[0, 1, 2, 3, 4], [2], [], 2, s394.1, [.tmp 4], 585⟩
theorem ok394 : FnM Tryz.prog 394 fun394 := SC.okM s394 rfl (fn := Tryz.f394) (by kernel_rfl) (by kernel_rfl)
noncomputable def s402 : SC (Tryz.f402.body.getD .skip) := SC.mk' (by simp only [Tryz.f402, go_sem]; rfl)
noncomputable def fun402 : Fun := ⟨[0, 1, 8, 5, 7, 9, 16, 4], [], [], 2, s402.1, [.tmp 4], 0⟩
theorem ok402 : FnM Tryz.prog 402 fun402 := SC.okM s402 rfl (fn := Tryz.f402) (by kernel_rfl) (by kernel_rfl)
noncomputable def s407 : SC (Tryz.f407.body.getD .skip) := SC.mk' (by simp only [Tryz.f407, go_sem]; rfl)
noncomputable def fun407 : Fun := ⟨[0, 1, 2, 3], [2], [], 2, s407.1, [.tmp 3], 0⟩
theorem ok407 : FnM Tryz.prog 407 fun407 := SC.okM s407 rfl (fn := Tryz.f407) (by kernel_rfl) (by kernel_rfl)
end Go.M
