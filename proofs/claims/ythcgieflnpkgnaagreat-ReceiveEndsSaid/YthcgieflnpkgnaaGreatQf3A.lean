/-
  The codes of functions, as the machine takes them.
  No condition: definitions and lemmas.
-/
import Derived.Test.YthcgieflnpkgnaaGreatQtyA
set_option linter.all false
set_option maxRecDepth 100000
set_option maxHeartbeats 4000000
namespace Go.M
open Go Go.Proofs
open Go.Eng (SOp SOper SCode sizeP aggP zerosOf bytesP zeroVal stripCode stripOps stripOper strip stripParts kindsOf)

noncomputable def s21 : SC (Tryz.f21.body.getD .skip) := SC.mk' (by simp only [Tryz.f21, go_sem]; rfl)
noncomputable def fun21 : Fun := ⟨[4, 1, 3, 5, 0], [1, 2], [], 0, s21.1, [.tmp 0], 19⟩
theorem ok21 : FnM Tryz.prog 21 fun21 := SC.okM s21 rfl (fn := Tryz.f21) (by kernel_rfl) (by kernel_rfl)
noncomputable def s29 : SC (Tryz.f29.body.getD .skip) := SC.mk' (by simp only [Tryz.f29, go_sem]; rfl)
noncomputable def fun29 : Fun := ⟨[0, 1, 2, 6, 8, 9, 16, 22, 7], [6, 8], [], 3, s29.1, [.cell 6 true 8, .tmp 7], 1⟩
theorem ok29 : FnM Tryz.prog 29 fun29 := SC.okM s29 rfl (fn := Tryz.f29) (by kernel_rfl) (by kernel_rfl)
noncomputable def s35 : SC (Tryz.f35.body.getD .skip) := SC.mk' (by simp only [Tryz.f35, go_sem]; rfl)
noncomputable def fun35 : Fun := ⟨[0, 1, 2, 9, 8, 27, 33, 6, 7], [], [], 3, s35.1, [.tmp 6, .tmp 7], 0⟩
theorem ok35 : FnM Tryz.prog 35 fun35 := SC.okM s35 rfl (fn := Tryz.f35) (by kernel_rfl) (by kernel_rfl)
noncomputable def s53 : SC (Tryz.f53.body.getD .skip) := SC.mk' (by simp only [Tryz.f53, go_sem]; rfl)
noncomputable def fun53 : Fun := ⟨[0, 1, 8, 5, 7, 9, 16, 4], [], [], 2, s53.1, [.tmp 4], 0⟩
theorem ok53 : FnM Tryz.prog 53 fun53 := SC.okM s53 rfl (fn := Tryz.f53) (by kernel_rfl) (by kernel_rfl)
noncomputable def s56 : SC (Tryz.f56.body.getD .skip) := SC.mk' (by simp only [Tryz.f56, go_sem]; rfl)
noncomputable def fun56 : Fun := ⟨[0, 1, 2, 11, 5, 6, 63, 86, 3, 38, 109, 129, 12, 23, 28, 37, 62, 76, 85, 108, 116, 117, 128, 4], [2, 3], [], 2, s56.1, [.tmp 4], 1⟩
theorem ok56 : FnM Tryz.prog 56 fun56 := SC.okM s56 rfl (fn := Tryz.f56) (by kernel_rfl) (by kernel_rfl)
noncomputable def s72 : SC (Tryz.f72.body.getD .skip) := SC.mk' (by simp only [Tryz.f72, go_sem]; rfl)
noncomputable def fun72 : Fun := ⟨[0, 1, 2], [1, 2], [], 1, s72.1, [.cell 2 true 3], 0⟩
theorem ok72 : FnM Tryz.prog 72 fun72 := SC.okM s72 rfl (fn := Tryz.f72) (by kernel_rfl) (by kernel_rfl)
noncomputable def s84 : SC (Tryz.f84.body.getD .skip) := SC.mk' (by simp only [Tryz.f84, go_sem]; rfl)
noncomputable def fun84 : Fun := ⟨[0, 1, 5, 10, 14, 25, 4], [], [], 2, s84.1, [.tmp 4], 0⟩
theorem ok84 : FnM Tryz.prog 84 fun84 := SC.okM s84 rfl (fn := Tryz.f84) (by kernel_rfl) (by kernel_rfl)
noncomputable def s109 : SC (Tryz.f109.body.getD .skip) := SC.mk' (by simp only [Tryz.f109, go_sem]; rfl)
noncomputable def fun109 : Fun := ⟨[0, 1, 5, 9, 18, 4], [], [], 2, s109.1, [.tmp 4], 0⟩
theorem ok109 : FnM Tryz.prog 109 fun109 := SC.okM s109 rfl (fn := Tryz.f109) (by kernel_rfl) (by kernel_rfl)
noncomputable def s112 : SC (Tryz.f112.body.getD .skip) := SC.mk' (by simp only [Tryz.f112, go_sem]; rfl)
noncomputable def fun112 : Fun := ⟨[0, 4, 1, 10, 5, 2], [1], [], 1, s112.1, [.tmp 2], 0⟩
theorem ok112 : FnM Tryz.prog 112 fun112 := SC.okM s112 rfl (fn := Tryz.f112) (by kernel_rfl) (by kernel_rfl)
noncomputable def s123 : SC (Tryz.f123.body.getD .skip) := SC.mk' (by simp only [Tryz.f123, go_sem]; rfl)
noncomputable def fun123 : Fun := ⟨[0, 1, 10, 8, 9, 2, 3, 13, 17, 6, 7, 11, 12, 90, 109, 88, 107, 34, 49, 61, 77, 84, 89, 91, 15, 108, 110, 139, 153, 4, 5], [1, 2, 3, 6, 7, 8, 9, 10, 13, 17], [], 1, s123.1, [.cell 2 true 63, .cell 3 true 6, .tmp 4, .tmp 5], 14⟩
theorem ok123 : FnM Tryz.prog 123 fun123 := SC.okM s123 rfl (fn := Tryz.f123) (by kernel_rfl) (by kernel_rfl)
noncomputable def s124 : SC (Tryz.f124.body.getD .skip) := SC.mk' (by simp only [Tryz.f124, go_sem]; rfl)
noncomputable def fun124 : Fun := ⟨[0, 1, 2, 6, 10, 4, 31, 7, 8, 29, 12, 18, 25, 30, 32, 11, 52, 70, 93, 5], [2, 4, 6, 7, 10], [], 2, s124.1, [.cell 4 true 63, .tmp 5], 14⟩
theorem ok124 : FnM Tryz.prog 124 fun124 := SC.okM s124 rfl (fn := Tryz.f124) (by kernel_rfl) (by kernel_rfl)
noncomputable def s126 : SC (Tryz.f126.body.getD .skip) := SC.mk' (by simp only [Tryz.f126, go_sem]; rfl)
noncomputable def fun126 : Fun := ⟨[0, 1, 3, 4], [], [], 2, s126.1, [.tmp 4], 2⟩
theorem ok126 : FnM Tryz.prog 126 fun126 := SC.okM s126 rfl (fn := Tryz.f126) (by kernel_rfl) (by kernel_rfl)
noncomputable def s148 : SC (Tryz.f148.body.getD .skip) := SC.mk' (by simp only [Tryz.f148, go_sem]; rfl)
noncomputable def fun148 : Fun := ⟨[0, 1, 2, 6], [], [], 3, s148.1, [.tmp 6], 0⟩
theorem ok148 : FnM Tryz.prog 148 fun148 := SC.okM s148 rfl (fn := Tryz.f148) (by kernel_rfl) (by kernel_rfl)
noncomputable def s168 : SC (Tryz.f168.body.getD .skip) := SC.mk' (by simp only [Tryz.f168, go_sem]; rfl)
noncomputable def fun168 : Fun := ⟨[0, 1, 4], [], [], 2, s168.1, [.tmp 4], 2⟩
theorem ok168 : FnM Tryz.prog 168 fun168 := SC.okM s168 rfl (fn := Tryz.f168) (by kernel_rfl) (by kernel_rfl)
noncomputable def s177 : SC (Tryz.f177.body.getD .skip) := SC.mk' (by simp only [Tryz.f177, go_sem]; rfl)
noncomputable def fun177 : Fun := ⟨[0, 6, 1, 4, 7, 2, 5, 32, 56, 3], [1, 2, 4, 6], [], 1, s177.1, [.cell 2 true 10, .tmp 3], 13⟩
theorem ok177 : FnM Tryz.prog 177 fun177 := SC.okM s177 rfl (fn := Tryz.f177) (by kernel_rfl) (by kernel_rfl)
noncomputable def s178 : SC (Tryz.f178.body.getD .skip) := SC.mk' (by simp only [Tryz.f178, go_sem]; rfl)
noncomputable def fun178 : Fun := ⟨[0, 1, 8, 5, 7, 9, 16, 4], [], [], 2, s178.1, [.tmp 4], 1⟩
theorem ok178 : FnM Tryz.prog 178 fun178 := SC.okM s178 rfl (fn := Tryz.f178) (by kernel_rfl) (by kernel_rfl)
noncomputable def s209 : SC (Tryz.f209.body.getD .skip) := SC.mk' (by simp only [Tryz.f209, go_sem]; rfl)
noncomputable def fun209 : Fun := ⟨[0, 1, 2, 3, 8, 20, 6], [3], [], 3, s209.1, [.tmp 6], 0⟩
theorem ok209 : FnM Tryz.prog 209 fun209 := SC.okM s209 rfl (fn := Tryz.f209) (by kernel_rfl) (by kernel_rfl)
noncomputable def s214 : SC (Tryz.f214.body.getD .skip) := SC.mk' (by simp only [Tryz.f214, go_sem]; rfl)
noncomputable def fun214 : Fun := ⟨[0, 2, 9, 3], [2], [], 1, s214.1, [.cell 2 true 2, .tmp 3], 0⟩
theorem ok214 : FnM Tryz.prog 214 fun214 := SC.okM s214 rfl (fn := Tryz.f214) (by kernel_rfl) (by kernel_rfl)
noncomputable def s216 : SC (Tryz.f216.body.getD .skip) := SC.mk' (by simp only [Tryz.f216, go_sem]; rfl)
noncomputable def fun216 : Fun := ⟨[0, 1, 2, 4, 12, 6, 7, 11, 13, 3, 26, 8, 9, 10], [3, 4, 6, 7, 11, 12], [], 3, s216.1, [.cell 6 true 11, .cell 7 true 63, .tmp 8, .tmp 9, .tmp 10], 13⟩
theorem ok216 : FnM Tryz.prog 216 fun216 := SC.okM s216 rfl (fn := Tryz.f216) (by kernel_rfl) (by kernel_rfl)
noncomputable def s235 : SC (Tryz.f235.body.getD .skip) := SC.mk' (by simp only [Tryz.f235, go_sem]; rfl)
noncomputable def fun235 : Fun := ⟨[0, 1, 2, 3, 4], [2, 3, 4], [], 2, s235.1, [.cell 4 true 63], 4⟩
theorem ok235 : FnM Tryz.prog 235 fun235 := SC.okM s235 rfl (fn := Tryz.f235) (by kernel_rfl) (by kernel_rfl)
noncomputable def s248 : SC (Tryz.f248.body.getD .skip) := SC.mk' (by simp only [Tryz.f248, go_sem]; rfl)
noncomputable def fun248 : Fun := ⟨[0, 1, 2, 4], [2], [], 2, s248.1, [.tmp 4], 0⟩
theorem ok248 : FnM Tryz.prog 248 fun248 := SC.okM s248 rfl (fn := Tryz.f248) (by kernel_rfl) (by kernel_rfl)
noncomputable def s254 : SC (Tryz.f254.body.getD .skip) := SC.mk' (by simp only [Tryz.f254, go_sem]; rfl)
noncomputable def fun254 : Fun := ⟨[0, 1, 2, 3, 4, 8, 16, 39, 11, 12, 37, 15, 27, 38, 40, 14, 51, 63, 9, 10], [4, 8, 15], [], 4, s254.1, [.cell 8 true 8, .tmp 9, .tmp 10], 12⟩
theorem ok254 : FnM Tryz.prog 254 fun254 := SC.okM s254 rfl (fn := Tryz.f254) (by kernel_rfl) (by kernel_rfl)
noncomputable def s285 : SC (Tryz.f285.body.getD .skip) := SC.mk' (by simp only [Tryz.f285, go_sem]; rfl)
noncomputable def fun285 : Fun := ⟨[0, 1, 2, 4, 14, 5], [2, 4], [], 2, s285.1, [.cell 4 true 4, .tmp 5], 0⟩
theorem ok285 : FnM Tryz.prog 285 fun285 := SC.okM s285 rfl (fn := Tryz.f285) (by kernel_rfl) (by kernel_rfl)
noncomputable def s288 : SC (Tryz.f288.body.getD .skip) := SC.mk' (by simp only [Tryz.f288, go_sem]; rfl)
noncomputable def fun288 : Fun := ⟨[0, 1, 2, 3, 4, 7, 8, 30, 10, 18, 29, 31, 12, 35, 42, 9], [4, 7, 8], [], 4, s288.1, [.cell 8 true 11, .tmp 9], 3⟩
theorem ok288 : FnM Tryz.prog 288 fun288 := SC.okM s288 rfl (fn := Tryz.f288) (by kernel_rfl) (by kernel_rfl)
noncomputable def s295 : SC (Tryz.f295.body.getD .skip) := SC.mk' (by simp only [Tryz.f295, go_sem]; rfl)
noncomputable def fun295 : Fun := ⟨[0, 1, 2, 3, 4, 8, 7, 10, 11, 17, 23, 39, 9], [4, 7, 8], [], 4, s295.1, [.cell 8 true 11, .tmp 9], 7⟩
theorem ok295 : FnM Tryz.prog 295 fun295 := SC.okM s295 rfl (fn := Tryz.f295) (by kernel_rfl) (by kernel_rfl)
noncomputable def s306 : SC (Tryz.f306.body.getD .skip) := SC.mk' (by simp only [Tryz.f306, go_sem]; rfl)
noncomputable def fun306 : Fun := ⟨[0, 1, 2, 5, 15, 35, 4], [2], [], 2, s306.1, [.tmp 4], 2⟩
theorem ok306 : FnM Tryz.prog 306 fun306 := SC.okM s306 rfl (fn := Tryz.f306) (by kernel_rfl) (by kernel_rfl)
noncomputable def s308 : SC (Tryz.f308.body.getD .skip) := SC.mk' (by simp only [Tryz.f308, go_sem]; rfl)
noncomputable def fun308 : Fun := ⟨[0, 1, 2], [1, 2], [], 1, s308.1, [.cell 2 true 6], 0⟩
theorem ok308 : FnM Tryz.prog 308 fun308 := SC.okM s308 rfl (fn := Tryz.f308) (by kernel_rfl) (by kernel_rfl)
noncomputable def s319 : SC (Tryz.f319.body.getD .skip) := SC.mk' (by simp only [Tryz.f319, go_sem]; rfl)
noncomputable def fun319 : Fun := ⟨[0, 1, 4, 6, 7, 14, 22, 5], [4, 6], [], 2, s319.1, [.cell 4 true 26, .tmp 5], 1⟩
theorem ok319 : FnM Tryz.prog 319 fun319 := SC.okM s319 rfl (fn := Tryz.f319) (by kernel_rfl) (by kernel_rfl)
noncomputable def s354 : SC (Tryz.f354.body.getD .skip) := SC.mk' (by simp only [Tryz.f354, go_sem]; rfl)
noncomputable def fun354 : Fun := ⟨[0, 1, 2], [1, 2], [], 1, s354.1, [.cell 2 true 3], 1⟩
theorem ok354 : FnM Tryz.prog 354 fun354 := SC.okM s354 rfl (fn := Tryz.f354) (by kernel_rfl) (by kernel_rfl)
noncomputable def s358 : SC (Tryz.f358.body.getD .skip) := SC.mk' (by simp only [Tryz.f358, go_sem]; rfl)
noncomputable def fun358 : Fun := ⟨[0, 4, 2], [], [], 1, s358.1, [.tmp 2], 0⟩
theorem ok358 : FnM Tryz.prog 358 fun358 := SC.okM s358 rfl (fn := Tryz.f358) (by kernel_rfl) (by kernel_rfl)
noncomputable def s360 : SC (Tryz.f360.body.getD .skip) := SC.mk' (by simp only [Tryz.f360, go_sem]; rfl)
noncomputable def fun360 : Fun := ⟨[0, 2], [], [], 1, s360.1, [.tmp 2], 0⟩
theorem ok360 : FnM Tryz.prog 360 fun360 := SC.okM s360 rfl (fn := Tryz.f360) (by kernel_rfl) (by kernel_rfl)
noncomputable def s392 : SC (Tryz.f392.body.getD .skip) := SC.mk' (by simp only [Tryz.f392, go_sem]; rfl)
noncomputable def fun392 : Fun := ⟨[0, 1, 3], [], [], 2, s392.1, [.tmp 3], 0⟩
theorem ok392 : FnM Tryz.prog 392 fun392 := SC.okM s392 rfl (fn := Tryz.f392) (by kernel_rfl) (by kernel_rfl)
noncomputable def s395 : SC (Tryz.f395.body.getD .skip) := SC.mk' (by simp only [Tryz.f395, go_sem]; rfl)
noncomputable def fun395 : Fun := ⟨[0, 1, 2, 4], [2], [], 2, s395.1, [.tmp 4], 0⟩
theorem ok395 : FnM Tryz.prog 395 fun395 := SC.okM s395 rfl (fn := Tryz.f395) (by kernel_rfl) (by kernel_rfl)
noncomputable def s403 : SC (Tryz.f403.body.getD .skip) := SC.mk' (by simp only [Tryz.f403, go_sem]; rfl)
noncomputable def fun403 : Fun := ⟨[0, 1, 2, 3, 24, 9, 45, 6, 7, 22, 43, 11, 19, 23, 25, 37, 44, 46, 53], [3, 9, 11], [], 3, s403.1, [.tmp 6, .tmp 7], 9⟩
theorem ok403 : FnM Tryz.prog 403 fun403 := SC.okM s403 rfl (fn := Tryz.f403) (by kernel_rfl) (by kernel_rfl)
noncomputable def s404 : SC (Tryz.f404.body.getD .skip) := SC.mk' (by simp only [Tryz.f404, go_sem]; rfl)
noncomputable def fun404 : Fun := ⟨[0, 1, 7, 3, 6, 8, 4, 2], [1], [], 1, s404.1, [.tmp 2], 1⟩
theorem ok404 : FnM Tryz.prog 404 fun404 := SC.okM s404 rfl (fn := Tryz.f404) (by kernel_rfl) (by kernel_rfl)
noncomputable def s405 : SC (Tryz.f405.body.getD .skip) := SC.mk' (by simp only [Tryz.f405, go_sem]; rfl)
noncomputable def fun405 : Fun := ⟨[0, 13, 5, 11, 4, 8, 10, 12, 14, 3, 23, 28, 36, 2], [4], [], 1, s405.1, [.tmp 2], 4⟩
theorem ok405 : FnM Tryz.prog 405 fun405 := SC.okM s405 rfl (fn := Tryz.f405) (by kernel_rfl) (by kernel_rfl)
noncomputable def s461 : SC (Tryz.f461.body.getD .skip) := SC.mk' (by simp only [Tryz.f461, go_sem]; rfl)
noncomputable def fun461 : Fun := ⟨[0, 1, 2, 6, 3, 8, 9, 16, 25, 7], [3, 6], [], 3, s461.1, [.cell 6 true 11, .tmp 7], 2⟩
theorem ok461 : FnM Tryz.prog 461 fun461 := SC.okM s461 rfl (fn := Tryz.f461) (by kernel_rfl) (by kernel_rfl)
noncomputable def s467 : SC (Tryz.f467.body.getD .skip) := SC.mk' (by simp only [Tryz.f467, go_sem]; rfl)
noncomputable def fun467 : Fun := ⟨[0, 1, 2, 6], [], [], 3, s467.1, [.tmp 6], 3⟩
theorem ok467 : FnM Tryz.prog 467 fun467 := SC.okM s467 rfl (fn := Tryz.f467) (by kernel_rfl) (by kernel_rfl)
noncomputable def s471 : SC (Tryz.f471.body.getD .skip) := SC.mk' (by simp only [Tryz.f471, go_sem]; rfl)
noncomputable def fun471 : Fun := ⟨[0, 1, 6, 3, 5, 2, 12, 24, 4], [2, 3], [], 2, s471.1, [.tmp 4], 0⟩
theorem ok471 : FnM Tryz.prog 471 fun471 := SC.okM s471 rfl (fn := Tryz.f471) (by kernel_rfl) (by kernel_rfl)
noncomputable def s475 : SC (Tryz.f475.body.getD .skip) := SC.mk' (by simp only [Tryz.f475, go_sem]; rfl)
noncomputable def fun475 : Fun := ⟨[0, 1, 2, 4, 3, 6, 7, 9, 10, 11, 29, 53, 67, 79, 8], [3, 4, 6, 7], [], 3, s475.1, [.cell 6 true 11, .cell 7 true 26, .tmp 8], 8⟩
theorem ok475 : FnM Tryz.prog 475 fun475 := SC.okM s475 rfl (fn := Tryz.f475) (by kernel_rfl) (by kernel_rfl)
noncomputable def s479 : SC (Tryz.f479.body.getD .skip) := SC.mk' (by simp only [Tryz.f479, go_sem]; rfl)
noncomputable def fun479 : Fun := ⟨[0, 1, 2, 7, 8, 3, 6, 20], [3, 6, 7], [], 3, s479.1, [.cell 6 true 3], 0⟩
theorem ok479 : FnM Tryz.prog 479 fun479 := SC.okM s479 rfl (fn := Tryz.f479) (by kernel_rfl) (by kernel_rfl)
noncomputable def s527 : SC (Tryz.f527.body.getD .skip) := SC.mk' (by simp only [Tryz.f527, go_sem]; rfl)
noncomputable def fun527 : Fun := ⟨[0, 1, 2, 3, 8, 4, 5, 10, 20, 25, 30, 46, 11, 12, 9], [4, 5, 8], [], 4, s527.1, [.cell 8 true 4, .tmp 9], 9⟩
theorem ok527 : FnM Tryz.prog 527 fun527 := SC.okM s527 rfl (fn := Tryz.f527) (by kernel_rfl) (by kernel_rfl)
end Go.M
