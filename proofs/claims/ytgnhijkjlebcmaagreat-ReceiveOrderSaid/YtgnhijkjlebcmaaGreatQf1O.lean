/-
  The codes of functions, as the machine takes them.
  No condition: definitions and lemmas.
-/
import Derived.Test.YtgnhijkjlebcmaaGreatQtyO
set_option linter.all false
set_option maxRecDepth 100000
set_option maxHeartbeats 4000000
namespace Go.M
open Go Go.Proofs
open Go.Eng (SOp SOper SCode sizeP aggP zerosOf bytesP zeroVal stripCode stripOps stripOper strip stripParts kindsOf kinds2)
noncomputable def s33 : SC (Tryz.f33.body.getD .skip) := SC.mk' (by simp only [Tryz.f33, go_sem]; rfl)
noncomputable def fun33 : Fun := ⟨[0, 4, 1, 3, 9, 18, 2], [1], [], 1, s33.1, [.tmp 2], 0⟩
theorem ok33 : FnM Tryz.prog 33 fun33 := SC.okM s33 rfl (fn := Tryz.f33) (by kernel_rfl) (by kernel_rfl)
noncomputable def s43 : SC (Tryz.f43.body.getD .skip) := SC.mk' (by simp only [Tryz.f43, go_sem]; rfl)
noncomputable def fun43 : Fun := ⟨[0, 1, 2, 3, 7, 4, 6, 36], [3, 4, 6, 7], [], 3, s43.1, [.cell 6 true 63], 65⟩
theorem ok43 : FnM Tryz.prog 43 fun43 := SC.okM s43 rfl (fn := Tryz.f43) (by kernel_rfl) (by kernel_rfl)
noncomputable def s54 : SC (Tryz.f54.body.getD .skip) := SC.mk' (by simp only [Tryz.f54, go_sem]; rfl)
noncomputable def fun54 : Fun := ⟨[0, 1, 4], [], [], 2, s54.1, [.tmp 4], 0⟩
theorem ok54 : FnM Tryz.prog 54 fun54 := SC.okM s54 rfl (fn := Tryz.f54) (by kernel_rfl) (by kernel_rfl)
noncomputable def s62 : SC (Tryz.f62.body.getD .skip) := SC.mk' (by simp only [Tryz.f62, go_sem]; rfl)
noncomputable def fun62 : Fun := ⟨[0, 1, 6, 7, 4, 8, 19, 24, 46, 5], [4, 6], [], 2, s62.1, [.cell 4 true 3, .tmp 5], 0⟩
theorem ok62 : FnM Tryz.prog 62 fun62 := SC.okM s62 rfl (fn := Tryz.f62) (by kernel_rfl) (by kernel_rfl)
noncomputable def s64 : SC (Tryz.f64.body.getD .skip) := SC.mk' (by simp only [Tryz.f64, go_sem]; rfl)
noncomputable def fun64 : Fun := ⟨[0, 1, 2, 6, 8, 9, 16, 22, 7], [6, 8], [], 3, s64.1, [.cell 6 true 8, .tmp 7], 65⟩
theorem ok64 : FnM Tryz.prog 64 fun64 := SC.okM s64 rfl (fn := Tryz.f64) (by kernel_rfl) (by kernel_rfl)
noncomputable def s70 : SC (Tryz.f70.body.getD .skip) := SC.mk' (by simp only [Tryz.f70, go_sem]; rfl)
noncomputable def fun70 : Fun := ⟨[0, 1, 4, 6, 7, 14, 22, 5], [4, 6], [], 2, s70.1, [.cell 4 true 26, .tmp 5], 130⟩
theorem ok70 : FnM Tryz.prog 70 fun70 := SC.okM s70 rfl (fn := Tryz.f70) (by kernel_rfl) (by kernel_rfl)
noncomputable def s81 : SC (Tryz.f81.body.getD .skip) := SC.mk' (by simp only [Tryz.f81, go_sem]; rfl)
noncomputable def fun81 : Fun := ⟨[0, 1, 5, 2, 4], [2, 4, 5], [], 2, s81.1, [.cell 4 true 10], 0⟩
theorem ok81 : FnM Tryz.prog 81 fun81 := SC.okM s81 rfl (fn := Tryz.f81) (by kernel_rfl) (by kernel_rfl)
noncomputable def s109 : SC (Tryz.f109.body.getD .skip) := SC.mk' (by simp only [Tryz.f109, go_sem]; rfl)
noncomputable def fun109 : Fun := ⟨[0, 1, 2, 4, 6, 7, 3, 15, 32, 11, 10, 12, 14, 18, 19, 136, 24, 33, 43, 58, 13, 72, 80, 95, 16, 17, 115, 122, 20, 132, 137, 146, 8, 9], [3, 4, 6, 7, 11, 12, 15, 19], [], 3, s109.1, [.cell 6 true 11, .cell 7 true 63, .tmp 8, .tmp 9], 910⟩
theorem ok109 : FnM Tryz.prog 109 fun109 := SC.okM s109 rfl (fn := Tryz.f109) (by kernel_rfl) (by kernel_rfl)
noncomputable def s120 : SC (Tryz.f120.body.getD .skip) := SC.mk' (by simp only [Tryz.f120, go_sem]; rfl)
noncomputable def fun120 : Fun := ⟨[0], [0], [], 0, s120.1, [.cell 0 true 4], 0⟩
theorem ok120 : FnM Tryz.prog 120 fun120 := SC.okM s120 rfl (fn := Tryz.f120) (by kernel_rfl) (by kernel_rfl)
noncomputable def s132 : SC (Tryz.f132.body.getD .skip) := SC.mk' (by simp only [Tryz.f132, go_sem]; rfl)
noncomputable def fun132 : Fun := ⟨[0, 1, 6, 7, 8, 3, 4, 5, 13, 19, 31, 43, 49, 55, 61, 81, 85, 96, 2], [1], [], 1, s132.1, [.tmp 2], 390⟩
theorem ok132 : FnM Tryz.prog 132 fun132 := SC.okM s132 rfl (fn := Tryz.f132) (by kernel_rfl) (by kernel_rfl)
noncomputable def s160 : SC (Tryz.f160.body.getD .skip) := SC.mk' (by simp only [Tryz.f160, go_sem]; rfl)
noncomputable def fun160 : Fun := ⟨[0, 2, 9, 3], [2], [], 1, s160.1, [.cell 2 true 2, .tmp 3], 0⟩
theorem ok160 : FnM Tryz.prog 160 fun160 := SC.okM s160 rfl (fn := Tryz.f160) (by kernel_rfl) (by kernel_rfl)
noncomputable def s197 : SC (Tryz.f197.body.getD .skip) := SC.mk' (by simp only [Tryz.f197, go_sem]; rfl)
noncomputable def fun197 : Fun := ⟨[0, 1, 2, 4, 3, 14, 6, 7, 9, 13, 10, 11, 27, 12, 58, 93, 8], [3, 4, 6, 7, 11, 13], [], 3, s197.1, [.cell 6 true 11, .cell 7 true 26, .tmp 8], 195⟩
theorem ok197 : FnM Tryz.prog 197 fun197 := SC.okM s197 rfl (fn := Tryz.f197) (by kernel_rfl) (by kernel_rfl)
noncomputable def s214 : SC (Tryz.f214.body.getD .skip) := SC.mk' (by simp only [Tryz.f214, go_sem]; rfl)
noncomputable def fun214 : Fun := ⟨[0, 1, 2, 7, 8, 3, 6, 20], [3, 6, 7], [], 3, s214.1, [.cell 6 true 3], 0⟩
theorem ok214 : FnM Tryz.prog 214 fun214 := SC.okM s214 rfl (fn := Tryz.f214) (by kernel_rfl) (by kernel_rfl)
noncomputable def s224 : SC (Tryz.f224.body.getD .skip) := SC.mk' (by simp only [Tryz.f224, go_sem]; rfl)
noncomputable def fun224 : Fun := ⟨[0, 1, 2, 3], [2], [], 2, s224.1, [.tmp 3], 0⟩
theorem ok224 : FnM Tryz.prog 224 fun224 := SC.okM s224 rfl (fn := Tryz.f224) (by kernel_rfl) (by kernel_rfl)
noncomputable def s234 : SC (Tryz.f234.body.getD .skip) := SC.mk' (by simp only [Tryz.f234, go_sem]; rfl)
noncomputable def fun234 : Fun := ⟨[0, 1, 2], [1], [], 1, s234.1, [.tmp 2], 0⟩
theorem ok234 : FnM Tryz.prog 234 fun234 := SC.okM s234 rfl (fn := Tryz.f234) (by kernel_rfl) (by kernel_rfl)
noncomputable def s274 : SC (Tryz.f274.body.getD .skip) := SC.mk' (by simp only [Tryz.f274, go_sem]; rfl)
noncomputable def fun274 : Fun := ⟨[0, 4, 2], [], [], 1, s274.1, [.tmp 2], 0⟩
theorem ok274 : FnM Tryz.prog 274 fun274 := SC.okM s274 rfl (fn := Tryz.f274) (by kernel_rfl) (by kernel_rfl)
noncomputable def s307 : SC (Tryz.f307.body.getD .skip) := SC.mk' (by simp only [Tryz.f307, go_sem]; rfl)
noncomputable def fun307 : Fun := ⟨[0, 1, 2, 3, 8, 4, 5, 10, 20, 25, 30, 46, 11, 12, 9], [4, 5, 8], [], 4, s307.1, [.cell 8 true 4, .tmp 9], 585⟩
theorem ok307 : FnM Tryz.prog 307 fun307 := SC.okM s307 rfl (fn := Tryz.f307) (by kernel_rfl) (by kernel_rfl)
noncomputable def s327 : SC (Tryz.f327.body.getD .skip) := SC.mk' (by simp only [Tryz.f327, go_sem]; rfl)
noncomputable def fun327 : Fun := ⟨[0, 1, 2, 9, 8, 26, 32, 6, 7], [], [], 3, s327.1, [.tmp 6, .tmp 7], 0⟩
theorem ok327 : FnM Tryz.prog 327 fun327 := SC.okM s327 rfl (fn := Tryz.f327) (by kernel_rfl) (by kernel_rfl)
noncomputable def s342 : SC (Tryz.f342.body.getD .skip) := SC.mk' (by simp only [Tryz.f342, go_sem]; rfl)
noncomputable def fun342 : Fun := ⟨[0, 1, 2, 3, 4, 8, 16, 39, 11, 12, 37, 15, 27, 38, 40, 14, 51, 63, 9, 10], [4, 8, 15], [], 4, s342.1, [.cell 8 true 8, .tmp 9, .tmp 10], 1040⟩
theorem ok342 : FnM Tryz.prog 342 fun342 := SC.okM s342 rfl (fn := Tryz.f342) (by kernel_rfl) (by kernel_rfl)
noncomputable def s352 : SC (Tryz.f352.body.getD .skip) := SC.mk' (by simp only [Tryz.f352, go_sem]; rfl)
noncomputable def fun352 : Fun := ⟨[0, 1, 2, 4, 3, 6, 7, 9, 20, 37, 54, 58, 8], [3, 4, 6, 7], [], 3, s352.1, [.cell 6 true 11, .cell 7 true 5, .tmp 8], 195⟩
theorem ok352 : FnM Tryz.prog 352 fun352 := SC.okM s352 rfl (fn := Tryz.f352) (by kernel_rfl) (by kernel_rfl)
noncomputable def s354 : SC (Tryz.f354.body.getD .skip) := SC.mk' (by simp only [Tryz.f354, go_sem]; rfl)
noncomputable def fun354 : Fun := ⟨[0, 1, 3], [], [], 2, s354.1, [.tmp 3], 0⟩
theorem ok354 : FnM Tryz.prog 354 fun354 := SC.okM s354 rfl (fn := Tryz.f354) (by kernel_rfl) (by kernel_rfl)
noncomputable def s375 : SC (Tryz.f375.body.getD .skip) := SC.mk' (by simp only [Tryz.f375, go_sem]; rfl)
noncomputable def fun375 : Fun := ⟨[0, 2], [], [], 1, s375.1, [.tmp 2], 0⟩
theorem ok375 : FnM Tryz.prog 375 fun375 := SC.okM s375 rfl (fn := Tryz.f375) (by kernel_rfl) (by kernel_rfl)
noncomputable def s401 : SC (Tryz.f401.body.getD .skip) := SC.mk' (by simp only [Tryz.f401, go_sem]; rfl)
noncomputable def fun401 : Fun := ⟨[0, 1, 2, 3, 6], [3], [], 3, s401.1, [.tmp 6], 65⟩
theorem ok401 : FnM Tryz.prog 401 fun401 := SC.okM s401 rfl (fn := Tryz.f401) (by kernel_rfl) (by kernel_rfl)
noncomputable def s421 : SC (Tryz.f421.body.getD .skip) := SC.mk' (by simp only [Tryz.f421, go_sem]; rfl)
noncomputable def fun421 : Fun := ⟨[0, 1, 2, 3, 4], [2], [], 2, s421.1, [.tmp 4], 845⟩
theorem ok421 : FnM Tryz.prog 421 fun421 := SC.okM s421 rfl (fn := Tryz.f421) (by kernel_rfl) (by kernel_rfl)
noncomputable def s422 : SC (Tryz.f422.body.getD .skip) := SC.mk' (by simp only [Tryz.f422, go_sem]; rfl)
noncomputable def fun422 : Fun := ⟨[0, 1, 2, 9, 11, 8, 10, 17, 31, 6, 7], [], [], 3, s422.1, [.tmp 6, .tmp 7], 195⟩
theorem ok422 : FnM Tryz.prog 422 fun422 := SC.okM s422 rfl (fn := Tryz.f422) (by kernel_rfl) (by kernel_rfl)
noncomputable def s424 : SC (Tryz.f424.body.getD .skip) := SC.mk' (by simp only [Tryz.f424, go_sem]; rfl)
noncomputable def fun424 : Fun := ⟨[0, 1, 6, 5, 11, 12, 13, 16, 19, 4], [], [], 2, s424.1, [.tmp 4], 65⟩
theorem ok424 : FnM Tryz.prog 424 fun424 := SC.okM s424 rfl (fn := Tryz.f424) (by kernel_rfl) (by kernel_rfl)
noncomputable def s434 : SC (Tryz.f434.body.getD .skip) := SC.mk' (by simp only [Tryz.f434, go_sem]; rfl)
noncomputable def fun434 : Fun := ⟨[0, 1, 2, 3, 6, 11], [3, 6], [], 3, s434.1, [.cell 6 true 11], 65⟩
theorem ok434 : FnM Tryz.prog 434 fun434 := SC.okM s434 rfl (fn := Tryz.f434) (by kernel_rfl) (by kernel_rfl)
noncomputable def s439 : SC (Tryz.f439.body.getD .skip) := SC.mk' (by simp only [Tryz.f439, go_sem]; rfl)
noncomputable def fun439 : Fun := ⟨[0, 1, 2, 6], [], [], 3, s439.1, [.tmp 6], 195⟩
theorem ok439 : FnM Tryz.prog 439 fun439 := SC.okM s439 rfl (fn := Tryz.f439) (by kernel_rfl) (by kernel_rfl)
noncomputable def s444 : SC (Tryz.f444.body.getD .skip) := SC.mk' (by simp only [Tryz.f444, go_sem]; rfl)
noncomputable def fun444 : Fun := ⟨[0, 1, 2, 3], [2], [], 2, s444.1, [.tmp 3], 0⟩
theorem ok444 : FnM Tryz.prog 444 fun444 := SC.okM s444 rfl (fn := Tryz.f444) (by kernel_rfl) (by kernel_rfl)
noncomputable def s450 : SC (Tryz.f450.body.getD .skip) := SC.mk' (by simp only [Tryz.f450, go_sem]; rfl)
noncomputable def fun450 : Fun := ⟨[0, 1, 2, 3, 4], [2, 3], [], 2, s450.1, [.tmp 4], 130⟩
theorem ok450 : FnM Tryz.prog 450 fun450 := SC.okM s450 rfl (fn := Tryz.f450) (by kernel_rfl) (by kernel_rfl)
noncomputable def s457 : SC (Tryz.f457.body.getD .skip) := SC.mk' (by simp only [Tryz.f457, go_sem]; rfl)
noncomputable def fun457 : Fun := ⟨[0, 8, 3, 6, 5, 7, 9, 14, 2], [], [], 1, s457.1, [.tmp 2], 0⟩
theorem ok457 : FnM Tryz.prog 457 fun457 := SC.okM s457 rfl (fn := Tryz.f457) (by kernel_rfl) (by kernel_rfl)
noncomputable def s460 : SC (Tryz.f460.body.getD .skip) := SC.mk' (by simp only [Tryz.f460, go_sem]; rfl)
noncomputable def fun460 : Fun := ⟨[0, 1, 2, 3, 9, 8, 14, 34], [], [], 4, s460.1, [], 195⟩
theorem ok460 : FnM Tryz.prog 460 fun460 := SC.okM s460 rfl (fn := Tryz.f460) (by kernel_rfl) (by kernel_rfl)
end Go.M
