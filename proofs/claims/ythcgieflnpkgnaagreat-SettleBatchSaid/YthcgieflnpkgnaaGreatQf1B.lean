/-
  The codes of functions, as the machine takes them.
  No condition: definitions and lemmas.
-/
import Derived.Test.YthcgieflnpkgnaaGreatQtyB
set_option linter.all false
set_option maxRecDepth 100000
set_option maxHeartbeats 4000000
namespace Go.M
open Go Go.Proofs
open Go.Eng (SOp SOper SCode sizeP aggP zerosOf bytesP zeroVal stripCode stripOps stripOper strip stripParts kindsOf)

noncomputable def s17 : SC (Tryz.f17.body.getD .skip) := SC.mk' (by simp only [Tryz.f17, go_sem]; rfl)
noncomputable def fun17 : Fun := ⟨[1, 2, 3, 5, 4, 9, 7, 11, 0], [1, 2, 3, 4, 8], [], 0, s17.1, [.tmp 0], 19⟩
theorem ok17 : FnM Tryz.prog 17 fun17 := SC.okM s17 rfl (fn := Tryz.f17) (by kernel_rfl) (by kernel_rfl)
noncomputable def s27 : SC (Tryz.f27.body.getD .skip) := SC.mk' (by simp only [Tryz.f27, go_sem]; rfl)
noncomputable def fun27 : Fun := ⟨[0, 1, 6, 7, 4, 8, 19, 24, 46, 5], [4, 6], [], 2, s27.1, [.cell 4 true 3, .tmp 5], 0⟩
theorem ok27 : FnM Tryz.prog 27 fun27 := SC.okM s27 rfl (fn := Tryz.f27) (by kernel_rfl) (by kernel_rfl)
noncomputable def s34 : SC (Tryz.f34.body.getD .skip) := SC.mk' (by simp only [Tryz.f34, go_sem]; rfl)
noncomputable def fun34 : Fun := ⟨[0, 1, 3, 7, 11, 2], [1], [], 1, s34.1, [.tmp 2], 7⟩
theorem ok34 : FnM Tryz.prog 34 fun34 := SC.okM s34 rfl (fn := Tryz.f34) (by kernel_rfl) (by kernel_rfl)
noncomputable def s36 : SC (Tryz.f36.body.getD .skip) := SC.mk' (by simp only [Tryz.f36, go_sem]; rfl)
noncomputable def fun36 : Fun := ⟨[0, 4, 3, 8, 2], [], [], 1, s36.1, [.tmp 2], 0⟩
theorem ok36 : FnM Tryz.prog 36 fun36 := SC.okM s36 rfl (fn := Tryz.f36) (by kernel_rfl) (by kernel_rfl)
noncomputable def s42 : SC (Tryz.f42.body.getD .skip) := SC.mk' (by simp only [Tryz.f42, go_sem]; rfl)
noncomputable def fun42 : Fun := ⟨[0, 1, 4, 42, 2, 3], [1], [], 1, s42.1, [.tmp 2, .tmp 3], 2⟩
theorem ok42 : FnM Tryz.prog 42 fun42 := SC.okM s42 rfl (fn := Tryz.f42) (by kernel_rfl) (by kernel_rfl)
noncomputable def s67 : SC (Tryz.f67.body.getD .skip) := SC.mk' (by simp only [Tryz.f67, go_sem]; rfl)
noncomputable def fun67 : Fun := ⟨[0, 4, 1, 6, 7, 8, 3, 5, 19, 2], [1, 8], [], 1, s67.1, [.tmp 2], 1⟩
theorem ok67 : FnM Tryz.prog 67 fun67 := SC.okM s67 rfl (fn := Tryz.f67) (by kernel_rfl) (by kernel_rfl)
noncomputable def s74 : SC (Tryz.f74.body.getD .skip) := SC.mk' (by simp only [Tryz.f74, go_sem]; rfl)
noncomputable def fun74 : Fun := ⟨[0, 1, 2, 4, 3], [1, 2], [], 1, s74.1, [.cell 2 true 63, .tmp 3], 3⟩
theorem ok74 : FnM Tryz.prog 74 fun74 := SC.okM s74 rfl (fn := Tryz.f74) (by kernel_rfl) (by kernel_rfl)
noncomputable def s85 : SC (Tryz.f85.body.getD .skip) := SC.mk' (by simp only [Tryz.f85, go_sem]; rfl)
noncomputable def fun85 : Fun := ⟨[0, 1, 2, 6], [], [], 3, s85.1, [.tmp 6], 0⟩
theorem ok85 : FnM Tryz.prog 85 fun85 := SC.okM s85 rfl (fn := Tryz.f85) (by kernel_rfl) (by kernel_rfl)
noncomputable def s106 : SC (Tryz.f106.body.getD .skip) := SC.mk' (by simp only [Tryz.f106, go_sem]; rfl)
noncomputable def fun106 : Fun := ⟨[0, 1, 2, 3, 4, 29, 7, 27, 10, 24, 28, 30, 6, 51, 61, 67, 5], [2, 3, 4], [], 2, s106.1, [.cell 4 true 26, .tmp 5], 3⟩
theorem ok106 : FnM Tryz.prog 106 fun106 := SC.okM s106 rfl (fn := Tryz.f106) (by kernel_rfl) (by kernel_rfl)
noncomputable def s108 : SC (Tryz.f108.body.getD .skip) := SC.mk' (by simp only [Tryz.f108, go_sem]; rfl)
noncomputable def fun108 : Fun := ⟨[0, 1, 38, 42, 2], [1], [], 1, s108.1, [.tmp 2], 1⟩
theorem ok108 : FnM Tryz.prog 108 fun108 := SC.okM s108 rfl (fn := Tryz.f108) (by kernel_rfl) (by kernel_rfl)
noncomputable def s111 : SC (Tryz.f111.body.getD .skip) := SC.mk' (by simp only [Tryz.f111, go_sem]; rfl)
noncomputable def fun111 : Fun := ⟨[0, 1, 2], [1], [], 1, s111.1, [.tmp 2], 5⟩
theorem ok111 : FnM Tryz.prog 111 fun111 := SC.okM s111 rfl (fn := Tryz.f111) (by kernel_rfl) (by kernel_rfl)
noncomputable def s136 : SC (Tryz.f136.body.getD .skip) := SC.mk' (by simp only [Tryz.f136, go_sem]; rfl)
noncomputable def fun136 : Fun := ⟨[0, 1, 2, 9, 8, 26, 32, 6, 7], [], [], 3, s136.1, [.tmp 6, .tmp 7], 0⟩
theorem ok136 : FnM Tryz.prog 136 fun136 := SC.okM s136 rfl (fn := Tryz.f136) (by kernel_rfl) (by kernel_rfl)
noncomputable def s138 : SC (Tryz.f138.body.getD .skip) := SC.mk' (by simp only [Tryz.f138, go_sem]; rfl)
noncomputable def fun138 : Fun := ⟨[0, 17, 2, 5, 15, 4, 13, 16, 18, 40, 3], [2], [], 1, s138.1, [.cell 2 true 5, .tmp 3], 1⟩
theorem ok138 : FnM Tryz.prog 138 fun138 := SC.okM s138 rfl (fn := Tryz.f138) (by kernel_rfl) (by kernel_rfl)
noncomputable def s149 : SC (Tryz.f149.body.getD .skip) := SC.mk' (by simp only [Tryz.f149, go_sem]; rfl)
noncomputable def fun149 : Fun := ⟨[0, 4, 5, 3, 8, 12, 20, 24, 35, 39, 52, 2], [], [], 1, s149.1, [.tmp 2], 1⟩
theorem ok149 : FnM Tryz.prog 149 fun149 := SC.okM s149 rfl (fn := Tryz.f149) (by kernel_rfl) (by kernel_rfl)
noncomputable def s150 : SC (Tryz.f150.body.getD .skip) := SC.mk' (by simp only [Tryz.f150, go_sem]; rfl)
noncomputable def fun150 : Fun := ⟨[0, 1, 5, 2, 10, 21, 4], [2], [], 2, s150.1, [.tmp 4], 0⟩
theorem ok150 : FnM Tryz.prog 150 fun150 := SC.okM s150 rfl (fn := Tryz.f150) (by kernel_rfl) (by kernel_rfl)
noncomputable def s153 : SC (Tryz.f153.body.getD .skip) := SC.mk' (by simp only [Tryz.f153, go_sem]; rfl)
noncomputable def fun153 : Fun := ⟨[0, 1, 2, 4, 6, 7, 3, 15, 32, 11, 10, 12, 14, 18, 19, 136, 24, 33, 43, 58, 13, 72, 80, 95, 16, 17, 115, 122, 20, 132, 137, 146, 8, 9], [3, 4, 6, 7, 11, 12, 15, 19], [], 3, s153.1, [.cell 6 true 11, .cell 7 true 63, .tmp 8, .tmp 9], 14⟩
theorem ok153 : FnM Tryz.prog 153 fun153 := SC.okM s153 rfl (fn := Tryz.f153) (by kernel_rfl) (by kernel_rfl)
noncomputable def s166 : SC (Tryz.f166.body.getD .skip) := SC.mk' (by simp only [Tryz.f166, go_sem]; rfl)
noncomputable def fun166 : Fun := ⟨[0, 1, 13, 5, 10, 12, 14, 24, 4], [], [], 2, s166.1, [.tmp 4], 0⟩
theorem ok166 : FnM Tryz.prog 166 fun166 := SC.okM s166 rfl (fn := Tryz.f166) (by kernel_rfl) (by kernel_rfl)
noncomputable def s192 : SC (Tryz.f192.body.getD .skip) := SC.mk' (by simp only [Tryz.f192, go_sem]; rfl)
noncomputable def fun192 : Fun := ⟨[0, 1, 9, 7, 8, 10, 6, 4], [], [], 2, s192.1, [.tmp 4], 0⟩
theorem ok192 : FnM Tryz.prog 192 fun192 := SC.okM s192 rfl (fn := Tryz.f192) (by kernel_rfl) (by kernel_rfl)
noncomputable def s205 : SC (Tryz.f205.body.getD .skip) := SC.mk' (by simp only [Tryz.f205, go_sem]; rfl)
noncomputable def fun205 : Fun := ⟨[0, 1, 2, 4, 5, 13, 3], [1, 2, 4], [], 1, s205.1, [.cell 2 true 26, .tmp 3], 1⟩
theorem ok205 : FnM Tryz.prog 205 fun205 := SC.okM s205 rfl (fn := Tryz.f205) (by kernel_rfl) (by kernel_rfl)
noncomputable def s206 : SC (Tryz.f206.body.getD .skip) := SC.mk' (by simp only [Tryz.f206, go_sem]; rfl)
noncomputable def fun206 : Fun := ⟨[0, 1, 2], [1], [], 1, s206.1, [.tmp 2], 0⟩
theorem ok206 : FnM Tryz.prog 206 fun206 := SC.okM s206 rfl (fn := Tryz.f206) (by kernel_rfl) (by kernel_rfl)
noncomputable def s216 : SC (Tryz.f216.body.getD .skip) := SC.mk' (by simp only [Tryz.f216, go_sem]; rfl)
noncomputable def fun216 : Fun := ⟨[0, 1, 2, 4, 12, 6, 7, 11, 13, 3, 26, 8, 9, 10], [3, 4, 6, 7, 11, 12], [], 3, s216.1, [.cell 6 true 11, .cell 7 true 63, .tmp 8, .tmp 9, .tmp 10], 13⟩
theorem ok216 : FnM Tryz.prog 216 fun216 := SC.okM s216 rfl (fn := Tryz.f216) (by kernel_rfl) (by kernel_rfl)
noncomputable def s219 : SC (Tryz.f219.body.getD .skip) := SC.mk' (by simp only [Tryz.f219, go_sem]; rfl)
noncomputable def fun219 : Fun := ⟨[0, 1, 2, 5, 10, 4], [2], [], 2, s219.1, [.tmp 4], 3⟩
theorem ok219 : FnM Tryz.prog 219 fun219 := SC.okM s219 rfl (fn := Tryz.f219) (by kernel_rfl) (by kernel_rfl)
noncomputable def s241 : SC (Tryz.f241.body.getD .skip) := SC.mk' (by simp only [Tryz.f241, go_sem]; rfl)
noncomputable def fun241 : Fun := ⟨[0, 2], [], [], 1, s241.1, [.tmp 2], 1⟩
theorem ok241 : FnM Tryz.prog 241 fun241 := SC.okM s241 rfl (fn := Tryz.f241) (by kernel_rfl) (by kernel_rfl)
noncomputable def s248 : SC (Tryz.f248.body.getD .skip) := SC.mk' (by simp only [Tryz.f248, go_sem]; rfl)
noncomputable def fun248 : Fun := ⟨[0, 1, 2, 4], [2], [], 2, s248.1, [.tmp 4], 0⟩
theorem ok248 : FnM Tryz.prog 248 fun248 := SC.okM s248 rfl (fn := Tryz.f248) (by kernel_rfl) (by kernel_rfl)
noncomputable def s284 : SC (Tryz.f284.body.getD .skip) := SC.mk' (by simp only [Tryz.f284, go_sem]; rfl)
noncomputable def fun284 : Fun := ⟨[0, 1], [], [], 2, s284.1, [], 0⟩
theorem ok284 : FnM Tryz.prog 284 fun284 := SC.okM s284 rfl (fn := Tryz.f284) (by kernel_rfl) (by kernel_rfl)
noncomputable def s291 : SC (Tryz.f291.body.getD .skip) := SC.mk' (by simp only [Tryz.f291, go_sem]; rfl)
noncomputable def fun291 : Fun := ⟨[0, 1, 2, 4, 9, 5], [2, 4], [], 2, s291.1, [.cell 4 true 8, .tmp 5], 1⟩
theorem ok291 : FnM Tryz.prog 291 fun291 := SC.okM s291 rfl (fn := Tryz.f291) (by kernel_rfl) (by kernel_rfl)
noncomputable def s293 : SC (Tryz.f293.body.getD .skip) := SC.mk' (by simp only [Tryz.f293, go_sem]; rfl)
noncomputable def fun293 : Fun := ⟨[0, 1, 2, 4, 6, 11, 3, 8, 9, 13, 22, 33, 44, 48, 52, 7], [3, 4, 6], [], 3, s293.1, [.cell 6 true 4, .tmp 7], 1⟩
theorem ok293 : FnM Tryz.prog 293 fun293 := SC.okM s293 rfl (fn := Tryz.f293) (by kernel_rfl) (by kernel_rfl)
noncomputable def s305 : SC (Tryz.f305.body.getD .skip) := SC.mk' (by simp only [Tryz.f305, go_sem]; rfl)
noncomputable def fun305 : Fun := ⟨[0, 1, 2, 6, 3], [1, 2], [], 1, s305.1, [.cell 2 true 5, .tmp 3], 0⟩
theorem ok305 : FnM Tryz.prog 305 fun305 := SC.okM s305 rfl (fn := Tryz.f305) (by kernel_rfl) (by kernel_rfl)
noncomputable def s306 : SC (Tryz.f306.body.getD .skip) := SC.mk' (by simp only [Tryz.f306, go_sem]; rfl)
noncomputable def fun306 : Fun := ⟨[0, 1, 2, 5, 15, 35, 4], [2], [], 2, s306.1, [.tmp 4], 2⟩
theorem ok306 : FnM Tryz.prog 306 fun306 := SC.okM s306 rfl (fn := Tryz.f306) (by kernel_rfl) (by kernel_rfl)
noncomputable def s311 : SC (Tryz.f311.body.getD .skip) := SC.mk' (by simp only [Tryz.f311, go_sem]; rfl)
noncomputable def fun311 : Fun := ⟨[0, 1, 2, 3, 6, 35, 7], [3, 6], [], 3, s311.1, [.cell 6 true 2, .tmp 7], 0⟩
theorem ok311 : FnM Tryz.prog 311 fun311 := SC.okM s311 rfl (fn := Tryz.f311) (by kernel_rfl) (by kernel_rfl)
noncomputable def s315 : SC (Tryz.f315.body.getD .skip) := SC.mk' (by simp only [Tryz.f315, go_sem]; rfl)
noncomputable def fun315 : Fun := ⟨[0, 1, 2, 4, 3, 6, 7, 11, 17, 20, 34, 43, 5], [2, 3, 4], [], 2, s315.1, [.cell 4 true 8, .tmp 5], 9⟩
theorem ok315 : FnM Tryz.prog 315 fun315 := SC.okM s315 rfl (fn := Tryz.f315) (by kernel_rfl) (by kernel_rfl)
noncomputable def s316 : SC (Tryz.f316.body.getD .skip) := SC.mk' (by simp only [Tryz.f316, go_sem]; rfl)
noncomputable def fun316 : Fun := ⟨[0, 1, 2, 18, 26, 4], [2], [], 2, s316.1, [.tmp 4], 2⟩
theorem ok316 : FnM Tryz.prog 316 fun316 := SC.okM s316 rfl (fn := Tryz.f316) (by kernel_rfl) (by kernel_rfl)
noncomputable def s318 : SC (Tryz.f318.body.getD .skip) := SC.mk' (by simp only [Tryz.f318, go_sem]; rfl)
noncomputable def fun318 : Fun := ⟨[0, 1, 3, 6, 9, 7, 8, 5, 10, 11, 4, 12, 31, 36, 59, 64, 69, 88, 93, 105, 108, 139, 142, 152, 161, 2], [1, 6], [], 1, s318.1, [.tmp 2], 1⟩
theorem ok318 : FnM Tryz.prog 318 fun318 := SC.okM s318 rfl (fn := Tryz.f318) (by kernel_rfl) (by kernel_rfl)
noncomputable def s334 : SC (Tryz.f334.body.getD .skip) := SC.mk' (by simp only [Tryz.f334, go_sem]; rfl)
noncomputable def fun334 : Fun := ⟨[0, 1, 3, 2, 4, 6, 7, 12, 26, 32, 52, 56, 69, 73, 80, 9, 5], [2, 3, 4, 8], [], 2, s334.1, [.cell 4 true 26, .tmp 5], 3⟩
theorem ok334 : FnM Tryz.prog 334 fun334 := SC.okM s334 rfl (fn := Tryz.f334) (by kernel_rfl) (by kernel_rfl)
noncomputable def s354 : SC (Tryz.f354.body.getD .skip) := SC.mk' (by simp only [Tryz.f354, go_sem]; rfl)
noncomputable def fun354 : Fun := ⟨[0, 1, 2], [1, 2], [], 1, s354.1, [.cell 2 true 3], 1⟩
theorem ok354 : FnM Tryz.prog 354 fun354 := SC.okM s354 rfl (fn := Tryz.f354) (by kernel_rfl) (by kernel_rfl)
noncomputable def s358 : SC (Tryz.f358.body.getD .skip) := SC.mk' (by simp only [Tryz.f358, go_sem]; rfl)
noncomputable def fun358 : Fun := ⟨[0, 4, 2], [], [], 1, s358.1, [.tmp 2], 0⟩
theorem ok358 : FnM Tryz.prog 358 fun358 := SC.okM s358 rfl (fn := Tryz.f358) (by kernel_rfl) (by kernel_rfl)
noncomputable def s393 : SC (Tryz.f393.body.getD .skip) := SC.mk' (by simp only [Tryz.f393, go_sem]; rfl)
noncomputable def fun393 : Fun := ⟨[0, 2], [], [], 1, s393.1, [.tmp 2], 0⟩
theorem ok393 : FnM Tryz.prog 393 fun393 := SC.okM s393 rfl (fn := Tryz.f393) (by kernel_rfl) (by kernel_rfl)
noncomputable def s394 : SC (Tryz.f394.body.getD .skip) := SC.mk' (by simp only [Tryz.f394, go_sem]; rfl)
noncomputable def fun394 : Fun := ⟨[0, 1, 2, 3, 7, 17, 6], [3], [], 3, s394.1, [.tmp 6], 2⟩
theorem ok394 : FnM Tryz.prog 394 fun394 := SC.okM s394 rfl (fn := Tryz.f394) (by kernel_rfl) (by kernel_rfl)
noncomputable def s412 : SC (Tryz.f412.body.getD .skip) := SC.mk' (by simp only [Tryz.f412, go_sem]; rfl)
noncomputable def fun412 : Fun := ⟨[0, 1, 2, 3, 4, 5, 6, 12, 18, 19, 16, 17, 15, 24, 52, 57, 70, 80, 13, 14], [6, 12, 19], [], 6, s412.1, [.cell 12 true 8, .tmp 13, .tmp 14], 8⟩
theorem ok412 : FnM Tryz.prog 412 fun412 := SC.okM s412 rfl (fn := Tryz.f412) (by kernel_rfl) (by kernel_rfl)
noncomputable def s416 : SC (Tryz.f416.body.getD .skip) := SC.mk' (by simp only [Tryz.f416, go_sem]; rfl)
noncomputable def fun416 : Fun := ⟨[0, 1, 2, 4], [2], [], 2, s416.1, [.tmp 4], 0⟩
theorem ok416 : FnM Tryz.prog 416 fun416 := SC.okM s416 rfl (fn := Tryz.f416) (by kernel_rfl) (by kernel_rfl)
noncomputable def s418 : SC (Tryz.f418.body.getD .skip) := SC.mk' (by simp only [Tryz.f418, go_sem]; rfl)
noncomputable def fun418 : Fun := ⟨[0, 2], [], [], 1, s418.1, [.tmp 2], 0⟩
theorem ok418 : FnM Tryz.prog 418 fun418 := SC.okM s418 rfl (fn := Tryz.f418) (by kernel_rfl) (by kernel_rfl)
noncomputable def s437 : SC (Tryz.f437.body.getD .skip) := SC.mk' (by simp only [Tryz.f437, go_sem]; rfl)
noncomputable def fun437 : Fun := ⟨[0, 1, 3, 4], [], [], 2, s437.1, [.tmp 4], 3⟩
theorem ok437 : FnM Tryz.prog 437 fun437 := SC.okM s437 rfl (fn := Tryz.f437) (by kernel_rfl) (by kernel_rfl)
noncomputable def s438 : SC (Tryz.f438.body.getD .skip) := SC.mk' (by simp only [Tryz.f438, go_sem]; rfl)
noncomputable def fun438 : Fun := ⟨[0, 1, 6, 5, 16, 29, 4], [], [], 2, s438.1, [.tmp 4], 5⟩
theorem ok438 : FnM Tryz.prog 438 fun438 := SC.okM s438 rfl (fn := Tryz.f438) (by kernel_rfl) (by kernel_rfl)
noncomputable def s440 : SC (Tryz.f440.body.getD .skip) := SC.mk' (by simp only [Tryz.f440, go_sem]; rfl)
noncomputable def fun440 : Fun := ⟨[0, 1, 5, 15, 4], [], [], 2, s440.1, [.tmp 4], 4⟩
theorem ok440 : FnM Tryz.prog 440 fun440 := SC.okM s440 rfl (fn := Tryz.f440) (by kernel_rfl) (by kernel_rfl)
noncomputable def s462 : SC (Tryz.f462.body.getD .skip) := SC.mk' (by simp only [Tryz.f462, go_sem]; rfl)
noncomputable def fun462 : Fun := ⟨[0, 1, 8, 5, 7, 9, 16, 4], [], [], 2, s462.1, [.tmp 4], 6⟩
theorem ok462 : FnM Tryz.prog 462 fun462 := SC.okM s462 rfl (fn := Tryz.f462) (by kernel_rfl) (by kernel_rfl)
noncomputable def s468 : SC (Tryz.f468.body.getD .skip) := SC.mk' (by simp only [Tryz.f468, go_sem]; rfl)
noncomputable def fun468 : Fun := ⟨[0, 1, 3, 4], [3], [], 2, s468.1, [.tmp 4], 1⟩
theorem ok468 : FnM Tryz.prog 468 fun468 := SC.okM s468 rfl (fn := Tryz.f468) (by kernel_rfl) (by kernel_rfl)
noncomputable def s490 : SC (Tryz.f490.body.getD .skip) := SC.mk' (by simp only [Tryz.f490, go_sem]; rfl)
noncomputable def fun490 : Fun := ⟨[0, 1, 2, 16, 7, 6], [], [], 3, s490.1, [.tmp 6], 0⟩
theorem ok490 : FnM Tryz.prog 490 fun490 := SC.okM s490 rfl (fn := Tryz.f490) (by kernel_rfl) (by kernel_rfl)
noncomputable def s492 : SC (Tryz.f492.body.getD .skip) := SC.mk' (by simp only [Tryz.f492, go_sem]; rfl)
noncomputable def fun492 : Fun := ⟨[0, 2], [], [], 1, s492.1, [.tmp 2], 0⟩
theorem ok492 : FnM Tryz.prog 492 fun492 := SC.okM s492 rfl (fn := Tryz.f492) (by kernel_rfl) (by kernel_rfl)
noncomputable def s497 : SC (Tryz.f497.body.getD .skip) := SC.mk' (by simp only [Tryz.f497, go_sem]; rfl)
noncomputable def fun497 : Fun := ⟨[0, 1, 2, 3, 4], [2, 3], [], 2, s497.1, [.tmp 4], 2⟩
theorem ok497 : FnM Tryz.prog 497 fun497 := SC.okM s497 rfl (fn := Tryz.f497) (by kernel_rfl) (by kernel_rfl)
noncomputable def s511 : SC (Tryz.f511.body.getD .skip) := SC.mk' (by simp only [Tryz.f511, go_sem]; rfl)
noncomputable def fun511 : Fun := ⟨[0, 1, 2, 6, 16, 4, 5], [2], [], 2, s511.1, [.tmp 4, .tmp 5], 0⟩
theorem ok511 : FnM Tryz.prog 511 fun511 := SC.okM s511 rfl (fn := Tryz.f511) (by kernel_rfl) (by kernel_rfl)
noncomputable def s516 : SC (Tryz.f516.body.getD .skip) := SC.mk' (by simp only [Tryz.f516, go_sem]; rfl)
noncomputable def fun516 : Fun := ⟨[0, 1, 2, 3, 6, 22, 27, 7, 8], [3, 6], [], 3, s516.1, [.cell 6 true 11, .tmp 7, .tmp 8], 1⟩
theorem ok516 : FnM Tryz.prog 516 fun516 := SC.okM s516 rfl (fn := Tryz.f516) (by kernel_rfl) (by kernel_rfl)
noncomputable def s526 : SC (Tryz.f526.body.getD .skip) := SC.mk' (by simp only [Tryz.f526, go_sem]; rfl)
noncomputable def fun526 : Fun := ⟨[0, 1, 5, 2, 11, 21, 4], [2], [], 2, s526.1, [.tmp 4], 0⟩
theorem ok526 : FnM Tryz.prog 526 fun526 := SC.okM s526 rfl (fn := Tryz.f526) (by kernel_rfl) (by kernel_rfl)
noncomputable def s542 : SC (Tryz.f542.body.getD .skip) := SC.mk' (by simp only [Tryz.f542, go_sem]; rfl)
noncomputable def fun542 : Fun := ⟨[0, 1, 2, 12, 3, 10, 13, 8, 9, 11, 26, 34, 52, 58, 67, 6, 7], [3], [], 3, s542.1, [.tmp 6, .tmp 7], 8⟩
theorem ok542 : FnM Tryz.prog 542 fun542 := SC.okM s542 rfl (fn := Tryz.f542) (by kernel_rfl) (by kernel_rfl)
end Go.M
