/-
  The codes of functions, as the machine takes them.
  No condition: definitions and lemmas.
-/
import Derived.Test.YtgnhijkjlebcmaaGreatQtyM
set_option linter.all false
set_option maxRecDepth 100000
set_option maxHeartbeats 4000000
namespace Go.M
open Go Go.Proofs
open Go.Eng (SOp SOper SCode sizeP aggP zerosOf bytesP zeroVal stripCode stripOps stripOper strip stripParts kindsOf kinds2)
noncomputable def s38 : SC (Tryz.f38.body.getD .skip) := SC.mk' (by simp only [Tryz.f38, go_sem]; rfl)
noncomputable def fun38 : Fun := ⟨[0, 1, 2, 11, 5, 6, 63, 86, 3, 38, 109, 129, 12, 23, 28, 37, 62, 76, 85, 108, 116, 117, 128, 4], [2, 3], [], 2, s38.1, [.tmp 4], 65⟩
theorem ok38 : FnM Tryz.prog 38 fun38 := SC.okM s38 rfl (fn := Tryz.f38) (by kernel_rfl) (by kernel_rfl)
noncomputable def s62 : SC (Tryz.f62.body.getD .skip) := SC.mk' (by simp only [Tryz.f62, go_sem]; rfl)
noncomputable def fun62 : Fun := ⟨[0, 1, 6, 7, 4, 8, 19, 24, 46, 5], [4, 6], [], 2, s62.1, [.cell 4 true 3, .tmp 5], 0⟩
theorem ok62 : FnM Tryz.prog 62 fun62 := SC.okM s62 rfl (fn := Tryz.f62) (by kernel_rfl) (by kernel_rfl)
noncomputable def s67 : SC (Tryz.f67.body.getD .skip) := SC.mk' (by simp only [Tryz.f67, go_sem]; rfl)
noncomputable def fun67 : Fun := ⟨[0, 1, 2, 19, 4, 6, 7, 3, 40, 112, 11, 20, 30, 52, 62, 72, 82, 92, 102, 123, 8, 9], [3, 4, 6, 7], [], 3, s67.1, [.cell 6 true 11, .cell 7 true 63, .tmp 8, .tmp 9], 975⟩
theorem ok67 : FnM Tryz.prog 67 fun67 := SC.okM s67 rfl (fn := Tryz.f67) (by kernel_rfl) (by kernel_rfl)
noncomputable def s70 : SC (Tryz.f70.body.getD .skip) := SC.mk' (by simp only [Tryz.f70, go_sem]; rfl)
noncomputable def fun70 : Fun := ⟨[0, 1, 4, 6, 7, 14, 22, 5], [4, 6], [], 2, s70.1, [.cell 4 true 26, .tmp 5], 130⟩
theorem ok70 : FnM Tryz.prog 70 fun70 := SC.okM s70 rfl (fn := Tryz.f70) (by kernel_rfl) (by kernel_rfl)
noncomputable def s75 : SC (Tryz.f75.body.getD .skip) := SC.mk' (by simp only [Tryz.f75, go_sem]; rfl)
noncomputable def fun75 : Fun := ⟨[0, 1, 2, 6], [], [], 3, s75.1, [.tmp 6], 0⟩
theorem ok75 : FnM Tryz.prog 75 fun75 := SC.okM s75 rfl (fn := Tryz.f75) (by kernel_rfl) (by kernel_rfl)
noncomputable def s80 : SC (Tryz.f80.body.getD .skip) := SC.mk' (by simp only [Tryz.f80, go_sem]; rfl)
noncomputable def fun80 : Fun := ⟨[0, 1, 2, 3, 4], [2, 3, 4], [], 2, s80.1, [.cell 4 true 63], 260⟩
theorem ok80 : FnM Tryz.prog 80 fun80 := SC.okM s80 rfl (fn := Tryz.f80) (by kernel_rfl) (by kernel_rfl)
noncomputable def s89 : SC (Tryz.f89.body.getD .skip) := SC.mk' (by simp only [Tryz.f89, go_sem]; rfl)
noncomputable def fun89 : Fun := ⟨[0, 1, 2, 4, 6, 13], [2, 4, 5], [], 2, s89.1, [.cell 4 true 63], 1235⟩
theorem ok89 : FnM Tryz.prog 89 fun89 := SC.okM s89 rfl (fn := Tryz.f89) (by kernel_rfl) (by kernel_rfl)
noncomputable def s91 : SC (Tryz.f91.body.getD .skip) := SC.mk' (by simp only [Tryz.f91, go_sem]; rfl)
noncomputable def fun91 : Fun := ⟨[0, 2], [], [], 1, s91.1, [.tmp 2], 65⟩
theorem ok91 : FnM Tryz.prog 91 fun91 := SC.okM s91 rfl (fn := Tryz.f91) (by kernel_rfl) (by kernel_rfl)
noncomputable def s126 : SC (Tryz.f126.body.getD .skip) := SC.mk' (by simp only [Tryz.f126, go_sem]; rfl)
noncomputable def fun126 : Fun := ⟨[0, 1, 4], [], [], 2, s126.1, [.tmp 4], 65⟩
theorem ok126 : FnM Tryz.prog 126 fun126 := SC.okM s126 rfl (fn := Tryz.f126) (by kernel_rfl) (by kernel_rfl)
noncomputable def s135 : SC (Tryz.f135.body.getD .skip) := SC.mk' (by simp only [Tryz.f135, go_sem]; rfl)
noncomputable def fun135 : Fun := ⟨[0, 2], [], [], 1, s135.1, [.tmp 2], 0⟩
theorem ok135 : FnM Tryz.prog 135 fun135 := SC.okM s135 rfl (fn := Tryz.f135) (by kernel_rfl) (by kernel_rfl)
noncomputable def s145 : SC (Tryz.f145.body.getD .skip) := SC.mk' (by simp only [Tryz.f145, go_sem]; rfl)
noncomputable def fun145 : Fun := ⟨[0, 4, 3, 8, 2], [], [], 1, s145.1, [.tmp 2], 0⟩
theorem ok145 : FnM Tryz.prog 145 fun145 := SC.okM s145 rfl (fn := Tryz.f145) (by kernel_rfl) (by kernel_rfl)
noncomputable def s200 : SC (Tryz.f200.body.getD .skip) := SC.mk' (by simp only [Tryz.f200, go_sem]; rfl)
noncomputable def fun200 : Fun := ⟨[0, 1, 2, 4, 3, 6, 7, 9, 10, 11, 29, 53, 67, 79, 8], [3, 4, 6, 7], [], 3, s200.1, [.cell 6 true 11, .cell 7 true 26, .tmp 8], 520⟩
theorem ok200 : FnM Tryz.prog 200 fun200 := SC.okM s200 rfl (fn := Tryz.f200) (by kernel_rfl) (by kernel_rfl)
noncomputable def s205 : SC (Tryz.f205.body.getD .skip) := SC.mk' (by simp only [Tryz.f205, go_sem]; rfl)
noncomputable def fun205 : Fun := ⟨[0, 1, 4, 3, 7, 5, 6, 8, 12, 17, 29, 31, 36, 45, 66, 74, 79, 106, 2], [1, 4], [], 1, s205.1, [.tmp 2], 130⟩
theorem ok205 : FnM Tryz.prog 205 fun205 := SC.okM s205 rfl (fn := Tryz.f205) (by kernel_rfl) (by kernel_rfl)
noncomputable def s210 : SC (Tryz.f210.body.getD .skip) := SC.mk' (by simp only [Tryz.f210, go_sem]; rfl)
noncomputable def fun210 : Fun := ⟨[0, 1, 2, 3, 9, 5, 4, 23, 10, 8], [4, 5, 9], [], 4, s210.1, [.tmp 8], 520⟩
theorem ok210 : FnM Tryz.prog 210 fun210 := SC.okM s210 rfl (fn := Tryz.f210) (by kernel_rfl) (by kernel_rfl)
noncomputable def s222 : SC (Tryz.f222.body.getD .skip) := SC.mk' (by simp only [Tryz.f222, go_sem]; rfl)
noncomputable def fun222 : Fun := ⟨[0, 5, 8, 3, 6, 7, 9, 27, 2], [5], [], 1, s222.1, [.tmp 2], 0⟩
theorem ok222 : FnM Tryz.prog 222 fun222 := SC.okM s222 rfl (fn := Tryz.f222) (by kernel_rfl) (by kernel_rfl)
noncomputable def s225 : SC (Tryz.f225.body.getD .skip) := SC.mk' (by simp only [Tryz.f225, go_sem]; rfl)
noncomputable def fun225 : Fun := ⟨[0, 1, 3, 4], [], [], 2, s225.1, [.tmp 4], 130⟩
theorem ok225 : FnM Tryz.prog 225 fun225 := SC.okM s225 rfl (fn := Tryz.f225) (by kernel_rfl) (by kernel_rfl)
noncomputable def s242 : SC (Tryz.f242.body.getD .skip) := SC.mk' (by simp only [Tryz.f242, go_sem]; rfl)
noncomputable def fun242 : Fun := ⟨[0, 1, 5, 6, 2, 7, 9, 3, 4], [1, 2, 5, 6], [], 1, s242.1, [.cell 2 true 8, .tmp 3, .tmp 4], 585⟩
theorem ok242 : FnM Tryz.prog 242 fun242 := SC.okM s242 rfl (fn := Tryz.f242) (by kernel_rfl) (by kernel_rfl)
noncomputable def s282 : SC (Tryz.f282.body.getD .skip) := SC.mk' (by simp only [Tryz.f282, go_sem]; rfl)
noncomputable def fun282 : Fun := ⟨[0, 1, 2, 3, 6, 5, 9, 13, 22, 28, 7, 8], [3, 5, 6], [], 3, s282.1, [.cell 6 true 11, .tmp 7, .tmp 8], 325⟩
theorem ok282 : FnM Tryz.prog 282 fun282 := SC.okM s282 rfl (fn := Tryz.f282) (by kernel_rfl) (by kernel_rfl)
noncomputable def s284 : SC (Tryz.f284.body.getD .skip) := SC.mk' (by simp only [Tryz.f284, go_sem]; rfl)
noncomputable def fun284 : Fun := ⟨[0, 1, 8, 56, 3, 4, 5, 6, 54, 13, 19, 23, 36, 37, 44, 55, 57, 67, 79, 2], [1, 8], [], 1, s284.1, [.tmp 2], 390⟩
theorem ok284 : FnM Tryz.prog 284 fun284 := SC.okM s284 rfl (fn := Tryz.f284) (by kernel_rfl) (by kernel_rfl)
noncomputable def s294 : SC (Tryz.f294.body.getD .skip) := SC.mk' (by simp only [Tryz.f294, go_sem]; rfl)
noncomputable def fun294 : Fun := ⟨[0, 1, 7, 3, 6, 8, 4, 2], [1], [], 1, s294.1, [.tmp 2], 65⟩
theorem ok294 : FnM Tryz.prog 294 fun294 := SC.okM s294 rfl (fn := Tryz.f294) (by kernel_rfl) (by kernel_rfl)
noncomputable def s310 : SC (Tryz.f310.body.getD .skip) := SC.mk' (by simp only [Tryz.f310, go_sem]; rfl)
noncomputable def fun310 : Fun := ⟨[0, 4, 5, 3, 8, 12, 20, 24, 35, 39, 52, 2], [], [], 1, s310.1, [.tmp 2], 65⟩
theorem ok310 : FnM Tryz.prog 310 fun310 := SC.okM s310 rfl (fn := Tryz.f310) (by kernel_rfl) (by kernel_rfl)
noncomputable def s315 : SC (Tryz.f315.body.getD .skip) := SC.mk' (by simp only [Tryz.f315, go_sem]; rfl)
noncomputable def fun315 : Fun := ⟨[0, 1, 5, 9, 18, 4], [], [], 2, s315.1, [.tmp 4], 0⟩
theorem ok315 : FnM Tryz.prog 315 fun315 := SC.okM s315 rfl (fn := Tryz.f315) (by kernel_rfl) (by kernel_rfl)
noncomputable def s348 : SC (Tryz.f348.body.getD .skip) := SC.mk' (by simp only [Tryz.f348, go_sem]; rfl)
noncomputable def fun348 : Fun := ⟨[0, 1, 2, 4, 5, 8, 9, 7, 13, 23, 6], [2, 4, 5], [31, 32], 2, s348.1, [.cell 4 true 3, .cell 5 true 7, .tmp 6], 195⟩
theorem ok348 : FnM Tryz.prog 348 fun348 := SC.okM s348 rfl (fn := Tryz.f348) (by kernel_rfl) (by kernel_rfl)
noncomputable def s351 : SC (Tryz.f351.body.getD .skip) := SC.mk' (by simp only [Tryz.f351, go_sem]; rfl)
noncomputable def fun351 : Fun := ⟨[0, 1, 2, 4, 3, 6, 7, 10, 21, 9, 38, 42, 53, 55, 8], [3, 4, 6, 7], [], 3, s351.1, [.cell 6 true 11, .cell 7 true 5, .tmp 8], 195⟩
theorem ok351 : FnM Tryz.prog 351 fun351 := SC.okM s351 rfl (fn := Tryz.f351) (by kernel_rfl) (by kernel_rfl)
noncomputable def s355 : SC (Tryz.f355.body.getD .skip) := SC.mk' (by simp only [Tryz.f355, go_sem]; rfl)
noncomputable def fun355 : Fun := ⟨[0, 2], [], [], 1, s355.1, [.tmp 2], 0⟩
theorem ok355 : FnM Tryz.prog 355 fun355 := SC.okM s355 rfl (fn := Tryz.f355) (by kernel_rfl) (by kernel_rfl)
noncomputable def s359 : SC (Tryz.f359.body.getD .skip) := SC.mk' (by simp only [Tryz.f359, go_sem]; rfl)
noncomputable def fun359 : Fun := ⟨[0, 1, 2, 6, 7, 11, 15, 4, 5], [2], [], 2, s359.1, [.tmp 4, .tmp 5], 0⟩
theorem ok359 : FnM Tryz.prog 359 fun359 := SC.okM s359 rfl (fn := Tryz.f359) (by kernel_rfl) (by kernel_rfl)
noncomputable def s376 : SC (Tryz.f376.body.getD .skip) := SC.mk' (by simp only [Tryz.f376, go_sem]; rfl)
noncomputable def fun376 : Fun := ⟨[0, 1, 2, 9, 4], [2], [], 2, s376.1, [.tmp 4], 0⟩
theorem ok376 : FnM Tryz.prog 376 fun376 := SC.okM s376 rfl (fn := Tryz.f376) (by kernel_rfl) (by kernel_rfl)
noncomputable def s380 : SC (Tryz.f380.body.getD .skip) := SC.mk' (by simp only [Tryz.f380, go_sem]; rfl)
noncomputable def fun380 : Fun := ⟨[0, 1, 2, 6, 3], [1, 2], [], 1, s380.1, [.cell 2 true 5, .tmp 3], 0⟩
theorem ok380 : FnM Tryz.prog 380 fun380 := SC.okM s380 rfl (fn := Tryz.f380) (by kernel_rfl) (by kernel_rfl)
noncomputable def s381 : SC (Tryz.f381.body.getD .skip) := SC.mk' (by simp only [Tryz.f381, go_sem]; rfl)
noncomputable def fun381 : Fun := ⟨[0, 1, 2, 6], [], [], 3, s381.1, [.tmp 6], 0⟩
theorem ok381 : FnM Tryz.prog 381 fun381 := SC.okM s381 rfl (fn := Tryz.f381) (by kernel_rfl) (by kernel_rfl)
noncomputable def s385 : SC (Tryz.f385.body.getD .skip) := SC.mk' (by simp only [Tryz.f385, go_sem]; rfl)
noncomputable def fun385 : Fun := ⟨[0, 1, 2, 7, 6], [], [], 3, s385.1, [.tmp 6], 0⟩
theorem ok385 : FnM Tryz.prog 385 fun385 := SC.okM s385 rfl (fn := Tryz.f385) (by kernel_rfl) (by kernel_rfl)
noncomputable def s403 : SC (Tryz.f403.body.getD .skip) := SC.mk' (by simp only [Tryz.f403, go_sem]; rfl)
noncomputable def fun403 : Fun := ⟨[0, 1, 2, 3, 6], [3], [], 3, s403.1, [.tmp 6], 65⟩
theorem ok403 : FnM Tryz.prog 403 fun403 := SC.okM s403 rfl (fn := Tryz.f403) (by kernel_rfl) (by kernel_rfl)
noncomputable def s410 : SC (Tryz.f410.body.getD .skip) := SC.mk' (by simp only [Tryz.f410, go_sem]; rfl)
noncomputable def fun410 : Fun := ⟨[0, 1, 8, 5, 7, 9, 16, 4], [], [], 2, s410.1, [.tmp 4], 390⟩
theorem ok410 : FnM Tryz.prog 410 fun410 := SC.okM s410 rfl (fn := Tryz.f410) (by kernel_rfl) (by kernel_rfl)
noncomputable def s423 : SC (Tryz.f423.body.getD .skip) := SC.mk' (by simp only [Tryz.f423, go_sem]; rfl)
noncomputable def fun423 : Fun := ⟨[0, 1, 2, 4], [2], [], 2, s423.1, [.tmp 4], 130⟩
theorem ok423 : FnM Tryz.prog 423 fun423 := SC.okM s423 rfl (fn := Tryz.f423) (by kernel_rfl) (by kernel_rfl)
noncomputable def s428 : SC (Tryz.f428.body.getD .skip) := SC.mk' (by simp only [Tryz.f428, go_sem]; rfl)
noncomputable def fun428 : Fun := ⟨[0, 1, 5, 15, 4], [], [], 2, s428.1, [.tmp 4], 260⟩
theorem ok428 : FnM Tryz.prog 428 fun428 := SC.okM s428 rfl (fn := Tryz.f428) (by kernel_rfl) (by kernel_rfl)
end Go.M
