/-
  The codes of functions, as the machine takes them.
  No condition: definitions and lemmas.
-/
import Derived.Test.YtgnhijkjlebcmaaGreatQtyM
set_option linter.all false
set_option maxRecDepth 100000
set_option maxHeartbeats 4000000
namespace Go.M
open Go Go.Proofs
open Go.Eng (SOp SOper SCode sizeP aggP zerosOf bytesP zeroVal stripCode stripOps stripOper strip stripParts kindsOf kinds2)
noncomputable def s15 : SC (Tryz.f15.body.getD .skip) := SC.mk' (by simp only [Tryz.f15, go_sem]; rfl)
noncomputable def fun15 : Fun := ⟨[0, 1, 2, 4, 6, 7, 3, 14, 20, 11, 13, 10, 32, 17, 18, 24, 33, 12, 47, 71, 79, 15, 16, 99, 106, 19, 116, 128, 141, 8, 9], [3, 4, 6, 7, 11, 13, 14, 18, 20], [], 3, s15.1, [.cell 6 true 11, .cell 7 true 63, .tmp 8, .tmp 9], 910⟩
theorem ok15 : FnM Tryz.prog 15 fun15 := SC.okM s15 rfl (fn := Tryz.f15) (by kernel_rfl) (by kernel_rfl)
noncomputable def s32 : SC (Tryz.f32.body.getD .skip) := SC.mk' (by simp only [Tryz.f32, go_sem]; rfl)
noncomputable def fun32 : Fun := ⟨[0, 1, 6, 7, 4, 8, 2, 57, 78, 90, 3], [1, 2, 4, 6, 8], [], 1, s32.1, [.cell 2 true 11, .tmp 3], 130⟩
theorem ok32 : FnM Tryz.prog 32 fun32 := SC.okM s32 rfl (fn := Tryz.f32) (by kernel_rfl) (by kernel_rfl)
noncomputable def s45 : SC (Tryz.f45.body.getD .skip) := SC.mk' (by simp only [Tryz.f45, go_sem]; rfl)
noncomputable def fun45 : Fun := ⟨[0, 1, 2, 3, 5, 4, 8], [4, 5, 8], [], 4, s45.1, [.cell 8 true 63], 195⟩
theorem ok45 : FnM Tryz.prog 45 fun45 := SC.okM s45 rfl (fn := Tryz.f45) (by kernel_rfl) (by kernel_rfl)
noncomputable def s53 : SC (Tryz.f53.body.getD .skip) := SC.mk' (by simp only [Tryz.f53, go_sem]; rfl)
noncomputable def fun53 : Fun := ⟨[0, 1, 4, 42, 2, 3], [1], [], 1, s53.1, [.tmp 2, .tmp 3], 130⟩
theorem ok53 : FnM Tryz.prog 53 fun53 := SC.okM s53 rfl (fn := Tryz.f53) (by kernel_rfl) (by kernel_rfl)
noncomputable def s79 : SC (Tryz.f79.body.getD .skip) := SC.mk' (by simp only [Tryz.f79, go_sem]; rfl)
noncomputable def fun79 : Fun := ⟨[0, 1, 2], [1, 2], [], 1, s79.1, [.cell 2 true 6], 0⟩
theorem ok79 : FnM Tryz.prog 79 fun79 := SC.okM s79 rfl (fn := Tryz.f79) (by kernel_rfl) (by kernel_rfl)
noncomputable def s87 : SC (Tryz.f87.body.getD .skip) := SC.mk' (by simp only [Tryz.f87, go_sem]; rfl)
noncomputable def fun87 : Fun := ⟨[0, 1, 3, 6, 2], [1], [], 1, s87.1, [.tmp 2], 0⟩
theorem ok87 : FnM Tryz.prog 87 fun87 := SC.okM s87 rfl (fn := Tryz.f87) (by kernel_rfl) (by kernel_rfl)
noncomputable def s121 : SC (Tryz.f121.body.getD .skip) := SC.mk' (by simp only [Tryz.f121, go_sem]; rfl)
noncomputable def fun121 : Fun := ⟨[0, 3, 4, 5, 35, 2], [], [], 1, s121.1, [.tmp 2], 780⟩
theorem ok121 : FnM Tryz.prog 121 fun121 := SC.okM s121 rfl (fn := Tryz.f121) (by kernel_rfl) (by kernel_rfl)
noncomputable def s139 : SC (Tryz.f139.body.getD .skip) := SC.mk' (by simp only [Tryz.f139, go_sem]; rfl)
noncomputable def fun139 : Fun := ⟨[0, 2], [], [], 1, s139.1, [.tmp 2], 0⟩
theorem ok139 : FnM Tryz.prog 139 fun139 := SC.okM s139 rfl (fn := Tryz.f139) (by kernel_rfl) (by kernel_rfl)
noncomputable def s160 : SC (Tryz.f160.body.getD .skip) := SC.mk' (by simp only [Tryz.f160, go_sem]; rfl)
noncomputable def fun160 : Fun := ⟨[0, 2, 9, 3], [2], [], 1, s160.1, [.cell 2 true 2, .tmp 3], 0⟩
theorem ok160 : FnM Tryz.prog 160 fun160 := SC.okM s160 rfl (fn := Tryz.f160) (by kernel_rfl) (by kernel_rfl)
noncomputable def s166 : SC (Tryz.f166.body.getD .skip) := SC.mk' (by simp only [Tryz.f166, go_sem]; rfl)
noncomputable def fun166 : Fun := ⟨[0, 3, 8, 7, 1, 6, 2, 20, 9], [1, 2, 3, 4, 8], [], 1, s166.1, [.cell 2 true 7], 650⟩
theorem ok166 : FnM Tryz.prog 166 fun166 := SC.okM s166 rfl (fn := Tryz.f166) (by kernel_rfl) (by kernel_rfl)
noncomputable def s190 : SC (Tryz.f190.body.getD .skip) := SC.mk' (by simp only [Tryz.f190, go_sem]; rfl)
noncomputable def fun190 : Fun := ⟨[0, 1, 8, 5, 7, 9, 16, 4], [], [], 2, s190.1, [.tmp 4], 0⟩
theorem ok190 : FnM Tryz.prog 190 fun190 := SC.okM s190 rfl (fn := Tryz.f190) (by kernel_rfl) (by kernel_rfl)
noncomputable def s193 : SC (Tryz.f193.body.getD .skip) := SC.mk' (by simp only [Tryz.f193, go_sem]; rfl)
noncomputable def fun193 : Fun := ⟨[0, 4, 1, 10, 5, 2], [1], [], 1, s193.1, [.tmp 2], 0⟩
theorem ok193 : FnM Tryz.prog 193 fun193 := SC.okM s193 rfl (fn := Tryz.f193) (by kernel_rfl) (by kernel_rfl)
noncomputable def s196 : SC (Tryz.f196.body.getD .skip) := SC.mk' (by simp only [Tryz.f196, go_sem]; rfl)
noncomputable def fun196 : Fun := ⟨[0, 1, 6, 3, 5, 2, 12, 24, 4], [2, 3], [], 2, s196.1, [.tmp 4], 0⟩
theorem ok196 : FnM Tryz.prog 196 fun196 := SC.okM s196 rfl (fn := Tryz.f196) (by kernel_rfl) (by kernel_rfl)
noncomputable def s197 : SC (Tryz.f197.body.getD .skip) := SC.mk' (by simp only [Tryz.f197, go_sem]; rfl)
noncomputable def fun197 : Fun := ⟨[0, 1, 2, 4, 3, 14, 6, 7, 9, 13, 10, 11, 27, 12, 58, 93, 8], [3, 4, 6, 7, 11, 13], [], 3, s197.1, [.cell 6 true 11, .cell 7 true 26, .tmp 8], 195⟩
theorem ok197 : FnM Tryz.prog 197 fun197 := SC.okM s197 rfl (fn := Tryz.f197) (by kernel_rfl) (by kernel_rfl)
noncomputable def s198 : SC (Tryz.f198.body.getD .skip) := SC.mk' (by simp only [Tryz.f198, go_sem]; rfl)
noncomputable def fun198 : Fun := ⟨[0, 1, 3, 2, 7, 9, 4, 5, 8, 21, 48, 6], [2, 3, 4, 5, 9], [], 2, s198.1, [.cell 4 true 11, .cell 5 true 26, .tmp 6], 130⟩
theorem ok198 : FnM Tryz.prog 198 fun198 := SC.okM s198 rfl (fn := Tryz.f198) (by kernel_rfl) (by kernel_rfl)
noncomputable def s206 : SC (Tryz.f206.body.getD .skip) := SC.mk' (by simp only [Tryz.f206, go_sem]; rfl)
noncomputable def fun206 : Fun := ⟨[0, 1, 2], [1], [], 1, s206.1, [.tmp 2], 325⟩
theorem ok206 : FnM Tryz.prog 206 fun206 := SC.okM s206 rfl (fn := Tryz.f206) (by kernel_rfl) (by kernel_rfl)
noncomputable def s213 : SC (Tryz.f213.body.getD .skip) := SC.mk' (by simp only [Tryz.f213, go_sem]; rfl)
noncomputable def fun213 : Fun := ⟨[0, 1, 2, 3, 5, 6, 10, 15, 22, 28, 4], [2, 3], [], 2, s213.1, [.tmp 4], 195⟩
theorem ok213 : FnM Tryz.prog 213 fun213 := SC.okM s213 rfl (fn := Tryz.f213) (by kernel_rfl) (by kernel_rfl)
noncomputable def s217 : SC (Tryz.f217.body.getD .skip) := SC.mk' (by simp only [Tryz.f217, go_sem]; rfl)
noncomputable def fun217 : Fun := ⟨[0, 1, 2, 3, 4, 13, 21, 11, 19, 9, 10, 12, 14, 7, 20, 22, 29, 34, 50, 57, 5], [3, 4, 9], [52, 80], 2, s217.1, [.cell 4 true 8, .tmp 5], 1105⟩
theorem ok217 : FnM Tryz.prog 217 fun217 := SC.okM s217 rfl (fn := Tryz.f217) (by kernel_rfl) (by kernel_rfl)
noncomputable def s241 : SC (Tryz.f241.body.getD .skip) := SC.mk' (by simp only [Tryz.f241, go_sem]; rfl)
noncomputable def fun241 : Fun := ⟨[0, 1, 2, 18, 26, 4], [2], [], 2, s241.1, [.tmp 4], 130⟩
theorem ok241 : FnM Tryz.prog 241 fun241 := SC.okM s241 rfl (fn := Tryz.f241) (by kernel_rfl) (by kernel_rfl)
noncomputable def s268 : SC (Tryz.f268.body.getD .skip) := SC.mk' (by simp only [Tryz.f268, go_sem]; rfl)
noncomputable def fun268 : Fun := ⟨[0, 1, 2], [], [], 1, s268.1, [.tmp 2], 520⟩
theorem ok268 : FnM Tryz.prog 268 fun268 := SC.okM s268 rfl (fn := Tryz.f268) (by kernel_rfl) (by kernel_rfl)
noncomputable def s281 : SC (Tryz.f281.body.getD .skip) := SC.mk' (by simp only [Tryz.f281, go_sem]; rfl)
noncomputable def fun281 : Fun := ⟨[0, 1, 2, 3, 4, 6, 7, 11, 15, 20, 30, 58, 5], [3, 4], [46], 2, s281.1, [.cell 4 true 3, .tmp 5], 325⟩
theorem ok281 : FnM Tryz.prog 281 fun281 := SC.okM s281 rfl (fn := Tryz.f281) (by kernel_rfl) (by kernel_rfl)
noncomputable def s307 : SC (Tryz.f307.body.getD .skip) := SC.mk' (by simp only [Tryz.f307, go_sem]; rfl)
noncomputable def fun307 : Fun := ⟨[0, 1, 2, 3, 8, 4, 5, 10, 20, 25, 30, 46, 11, 12, 9], [4, 5, 8], [], 4, s307.1, [.cell 8 true 4, .tmp 9], 585⟩
theorem ok307 : FnM Tryz.prog 307 fun307 := SC.okM s307 rfl (fn := Tryz.f307) (by kernel_rfl) (by kernel_rfl)
noncomputable def s314 : SC (Tryz.f314.body.getD .skip) := SC.mk' (by simp only [Tryz.f314, go_sem]; rfl)
noncomputable def fun314 : Fun := ⟨[0, 1, 2, 4], [2], [], 2, s314.1, [.tmp 4], 0⟩
theorem ok314 : FnM Tryz.prog 314 fun314 := SC.okM s314 rfl (fn := Tryz.f314) (by kernel_rfl) (by kernel_rfl)
noncomputable def s316 : SC (Tryz.f316.body.getD .skip) := SC.mk' (by simp only [Tryz.f316, go_sem]; rfl)
noncomputable def fun316 : Fun := ⟨[0, 1, 6, 5, 16, 39, 4], [], [], 2, s316.1, [.tmp 4], 130⟩
theorem ok316 : FnM Tryz.prog 316 fun316 := SC.okM s316 rfl (fn := Tryz.f316) (by kernel_rfl) (by kernel_rfl)
noncomputable def s358 : SC (Tryz.f358.body.getD .skip) := SC.mk' (by simp only [Tryz.f358, go_sem]; rfl)
noncomputable def fun358 : Fun := ⟨[0, 1, 2, 4], [2], [], 2, s358.1, [.tmp 4], 0⟩
theorem ok358 : FnM Tryz.prog 358 fun358 := SC.okM s358 rfl (fn := Tryz.f358) (by kernel_rfl) (by kernel_rfl)
noncomputable def s362 : SC (Tryz.f362.body.getD .skip) := SC.mk' (by simp only [Tryz.f362, go_sem]; rfl)
noncomputable def fun362 : Fun := ⟨[0, 4, 2], [], [], 1, s362.1, [.tmp 2], 0⟩
theorem ok362 : FnM Tryz.prog 362 fun362 := SC.okM s362 rfl (fn := Tryz.f362) (by kernel_rfl) (by kernel_rfl)
noncomputable def s374 : SC (Tryz.f374.body.getD .skip) := SC.mk' (by simp only [Tryz.f374, go_sem]; rfl)
noncomputable def fun374 : Fun := ⟨[0, 1, 38, 42, 2], [1], [], 1, s374.1, [.tmp 2], 65⟩
theorem ok374 : FnM Tryz.prog 374 fun374 := SC.okM s374 rfl (fn := Tryz.f374) (by kernel_rfl) (by kernel_rfl)
noncomputable def s377 : SC (Tryz.f377.body.getD .skip) := SC.mk' (by simp only [Tryz.f377, go_sem]; rfl)
noncomputable def fun377 : Fun := ⟨[0, 1, 2, 3, 6, 11], [3, 6], [], 3, s377.1, [.cell 6 true 11], 0⟩
theorem ok377 : FnM Tryz.prog 377 fun377 := SC.okM s377 rfl (fn := Tryz.f377) (by kernel_rfl) (by kernel_rfl)
noncomputable def s378 : SC (Tryz.f378.body.getD .skip) := SC.mk' (by simp only [Tryz.f378, go_sem]; rfl)
noncomputable def fun378 : Fun := ⟨[0, 1, 2, 3, 15, 23, 6], [3], [], 3, s378.1, [.tmp 6], 65⟩
theorem ok378 : FnM Tryz.prog 378 fun378 := SC.okM s378 rfl (fn := Tryz.f378) (by kernel_rfl) (by kernel_rfl)
noncomputable def s390 : SC (Tryz.f390.body.getD .skip) := SC.mk' (by simp only [Tryz.f390, go_sem]; rfl)
noncomputable def fun390 : Fun := ⟨[0, 1, 4], [], [], 2, s390.1, [.tmp 4], 65⟩
theorem ok390 : FnM Tryz.prog 390 fun390 := SC.okM s390 rfl (fn := Tryz.f390) (by kernel_rfl) (by kernel_rfl)
noncomputable def s404 : SC (Tryz.f404.body.getD .skip) := SC.mk' (by simp only [Tryz.f404, go_sem]; rfl)
noncomputable def fun404 : Fun := ⟨[0, 1, 2, 4, 7, 12, 17, 3], [1, 2], [], 1, s404.1, [.cell 2 true 7, .tmp 3], 130⟩
theorem ok404 : FnM Tryz.prog 404 fun404 := SC.okM s404 rfl (fn := Tryz.f404) (by kernel_rfl) (by kernel_rfl)
noncomputable def s427 : SC (Tryz.f427.body.getD .skip) := SC.mk' (by simp only [Tryz.f427, go_sem]; rfl)
noncomputable def fun427 : Fun := ⟨[0, 1, 2], [1], [], 1, s427.1, [.tmp 2], 0⟩
theorem ok427 : FnM Tryz.prog 427 fun427 := SC.okM s427 rfl (fn := Tryz.f427) (by kernel_rfl) (by kernel_rfl)
noncomputable def s433 : SC (Tryz.f433.body.getD .skip) := SC.mk' (by simp only [Tryz.f433, go_sem]; rfl)
noncomputable def fun433 : Fun := ⟨[0, 1, 2, 6, 16, 4, 5], [2], [], 2, s433.1, [.tmp 4, .tmp 5], 0⟩
theorem ok433 : FnM Tryz.prog 433 fun433 := SC.okM s433 rfl (fn := Tryz.f433) (by kernel_rfl) (by kernel_rfl)
noncomputable def s440 : SC (Tryz.f440.body.getD .skip) := SC.mk' (by simp only [Tryz.f440, go_sem]; rfl)
noncomputable def fun440 : Fun := ⟨[0, 1, 3, 4], [3], [], 2, s440.1, [.tmp 4], 65⟩
theorem ok440 : FnM Tryz.prog 440 fun440 := SC.okM s440 rfl (fn := Tryz.f440) (by kernel_rfl) (by kernel_rfl)
end Go.M
