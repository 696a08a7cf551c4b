/-
  The codes of functions, as the machine takes them.
  No condition: definitions and lemmas.
-/
import Derived.Test.YtncnaejhbmnkbaaGreatQtyA
set_option linter.all false
set_option maxRecDepth 100000
set_option maxHeartbeats 4000000
namespace Go.M
open Go Go.Proofs
open Go.Eng (SOp SOper SCode sizeP aggP zerosOf bytesP zeroVal stripCode stripOps stripOper strip stripParts kindsOf)

noncomputable def s4 : SC (Tryz.f4.body.getD .skip) := SC.mk' (by simp only [Tryz.f4, go_sem]; rfl)
noncomputable def fun4 : Fun := ⟨[0, 1, 6, 7, 4, 8, 2, 57, 78, 90, 3], [1, 2, 4, 6, 8], [], 1, s4.1, [.cell 2 true 11, .tmp 3], 2⟩
theorem ok4 : FnM Tryz.prog 4 fun4 := SC.okM s4 rfl (fn := Tryz.f4) (by kernel_rfl) (by kernel_rfl)
noncomputable def s9 : SC (Tryz.f9.body.getD .skip) := SC.mk' (by simp only [Tryz.f9, go_sem]; rfl)
noncomputable def fun9 : Fun := ⟨[0, 1, 6, 7, 4, 8, 19, 24, 46, 5], [4, 6], [], 2, s9.1, [.cell 4 true 3, .tmp 5], 0⟩
theorem ok9 : FnM Tryz.prog 9 fun9 := SC.okM s9 rfl (fn := Tryz.f9) (by kernel_rfl) (by kernel_rfl)
noncomputable def s14 : SC (Tryz.f14.body.getD .skip) := SC.mk' (by simp only [Tryz.f14, go_sem]; rfl)
noncomputable def fun14 : Fun := ⟨[0, 1, 2, 4, 3, 26, 6, 7, 10, 11, 13, 17, 12, 27, 37, 46, 54, 66, 8, 9], [3, 4, 6, 7], [], 3, s14.1, [.cell 6 true 11, .cell 7 true 63, .tmp 8, .tmp 9], 15⟩
theorem ok14 : FnM Tryz.prog 14 fun14 := SC.okM s14 rfl (fn := Tryz.f14) (by kernel_rfl) (by kernel_rfl)
noncomputable def s16 : SC (Tryz.f16.body.getD .skip) := SC.mk' (by simp only [Tryz.f16, go_sem]; rfl)
noncomputable def fun16 : Fun := ⟨[0, 1, 2, 6], [6], [], 3, s16.1, [.cell 6 true 8], 0⟩
theorem ok16 : FnM Tryz.prog 16 fun16 := SC.okM s16 rfl (fn := Tryz.f16) (by kernel_rfl) (by kernel_rfl)
noncomputable def s19 : SC (Tryz.f19.body.getD .skip) := SC.mk' (by simp only [Tryz.f19, go_sem]; rfl)
noncomputable def fun19 : Fun := ⟨[0, 1, 4], [], [], 2, s19.1, [.tmp 4], 0⟩
theorem ok19 : FnM Tryz.prog 19 fun19 := SC.okM s19 rfl (fn := Tryz.f19) (by kernel_rfl) (by kernel_rfl)
noncomputable def s23 : SC (Tryz.f23.body.getD .skip) := SC.mk' (by simp only [Tryz.f23, go_sem]; rfl)
noncomputable def fun23 : Fun := ⟨[0, 1, 2, 4, 6, 9, 10, 11, 3, 18, 24, 7, 8], [3, 4, 6, 11], [], 3, s23.1, [.cell 6 true 63, .tmp 7, .tmp 8], 2⟩
theorem ok23 : FnM Tryz.prog 23 fun23 := SC.okM s23 rfl (fn := Tryz.f23) (by kernel_rfl) (by kernel_rfl)
noncomputable def s24 : SC (Tryz.f24.body.getD .skip) := SC.mk' (by simp only [Tryz.f24, go_sem]; rfl)
noncomputable def fun24 : Fun := ⟨[0, 1, 3, 2, 8, 4, 5, 7, 21, 26, 6], [2, 3, 4, 5], [], 2, s24.1, [.cell 4 true 11, .cell 5 true 63, .tmp 6], 3⟩
theorem ok24 : FnM Tryz.prog 24 fun24 := SC.okM s24 rfl (fn := Tryz.f24) (by kernel_rfl) (by kernel_rfl)
noncomputable def s43 : SC (Tryz.f43.body.getD .skip) := SC.mk' (by simp only [Tryz.f43, go_sem]; rfl)
noncomputable def fun43 : Fun := ⟨[0, 1, 2], [1], [], 1, s43.1, [.tmp 2], 0⟩
theorem ok43 : FnM Tryz.prog 43 fun43 := SC.okM s43 rfl (fn := Tryz.f43) (by kernel_rfl) (by kernel_rfl)
noncomputable def s46 : SC (Tryz.f46.body.getD .skip) := SC.mk' (by simp only [Tryz.f46, go_sem]; rfl)
noncomputable def fun46 : Fun := ⟨[0, 1, 2], [1], [], 1, s46.1, [.tmp 2], 5⟩
theorem ok46 : FnM Tryz.prog 46 fun46 := SC.okM s46 rfl (fn := Tryz.f46) (by kernel_rfl) (by kernel_rfl)
noncomputable def s52 : SC (Tryz.f52.body.getD .skip) := SC.mk' (by simp only [Tryz.f52, go_sem]; rfl)
noncomputable def fun52 : Fun := ⟨[0, 4, 1, 10, 5, 2], [1], [], 1, s52.1, [.tmp 2], 0⟩
theorem ok52 : FnM Tryz.prog 52 fun52 := SC.okM s52 rfl (fn := Tryz.f52) (by kernel_rfl) (by kernel_rfl)
noncomputable def s57 : SC (Tryz.f57.body.getD .skip) := SC.mk' (by simp only [Tryz.f57, go_sem]; rfl)
noncomputable def fun57 : Fun := ⟨[0, 1, 2, 9, 8, 26, 32, 6, 7], [], [], 3, s57.1, [.tmp 6, .tmp 7], 0⟩
theorem ok57 : FnM Tryz.prog 57 fun57 := SC.okM s57 rfl (fn := Tryz.f57) (by kernel_rfl) (by kernel_rfl)
noncomputable def s60 : SC (Tryz.f60.body.getD .skip) := SC.mk' (by simp only [Tryz.f60, go_sem]; rfl)
noncomputable def fun60 : Fun := ⟨[0, 17, 2, 5, 15, 4, 13, 16, 18, 40, 3], [2], [], 1, s60.1, [.cell 2 true 5, .tmp 3], 1⟩
theorem ok60 : FnM Tryz.prog 60 fun60 := SC.okM s60 rfl (fn := Tryz.f60) (by kernel_rfl) (by kernel_rfl)
noncomputable def s61 : SC (Tryz.f61.body.getD .skip) := SC.mk' (by simp only [Tryz.f61, go_sem]; rfl)
noncomputable def fun61 : Fun := ⟨[0], [0], [], 0, s61.1, [.cell 0 true 4], 0⟩
theorem ok61 : FnM Tryz.prog 61 fun61 := SC.okM s61 rfl (fn := Tryz.f61) (by kernel_rfl) (by kernel_rfl)
noncomputable def s70 : SC (Tryz.f70.body.getD .skip) := SC.mk' (by simp only [Tryz.f70, go_sem]; rfl)
noncomputable def fun70 : Fun := ⟨[0, 1, 4], [], [], 2, s70.1, [.tmp 4], 1⟩
theorem ok70 : FnM Tryz.prog 70 fun70 := SC.okM s70 rfl (fn := Tryz.f70) (by kernel_rfl) (by kernel_rfl)
noncomputable def s84 : SC (Tryz.f84.body.getD .skip) := SC.mk' (by simp only [Tryz.f84, go_sem]; rfl)
noncomputable def fun84 : Fun := ⟨[0, 5, 8, 3, 6, 7, 9, 27, 2], [5], [], 1, s84.1, [.tmp 2], 0⟩
theorem ok84 : FnM Tryz.prog 84 fun84 := SC.okM s84 rfl (fn := Tryz.f84) (by kernel_rfl) (by kernel_rfl)
noncomputable def s89 : SC (Tryz.f89.body.getD .skip) := SC.mk' (by simp only [Tryz.f89, go_sem]; rfl)
noncomputable def fun89 : Fun := ⟨[0, 4, 2], [], [], 1, s89.1, [.tmp 2], 0⟩
theorem ok89 : FnM Tryz.prog 89 fun89 := SC.okM s89 rfl (fn := Tryz.f89) (by kernel_rfl) (by kernel_rfl)
noncomputable def s90 : SC (Tryz.f90.body.getD .skip) := SC.mk' (by simp only [Tryz.f90, go_sem]; rfl)
noncomputable def fun90 : Fun := ⟨[0, 3, 30, 32, 47, 57, 2], [], [], 1, s90.1, [.tmp 2], 5⟩
theorem ok90 : FnM Tryz.prog 90 fun90 := SC.okM s90 rfl (fn := Tryz.f90) (by kernel_rfl) (by kernel_rfl)
noncomputable def s91 : SC (Tryz.f91.body.getD .skip) := SC.mk' (by simp only [Tryz.f91, go_sem]; rfl)
noncomputable def fun91 : Fun := ⟨[0, 3, 8, 7, 4, 5, 22, 38, 6, 78, 92, 112, 145, 2], [5, 7], [], 1, s91.1, [.tmp 2], 4⟩
theorem ok91 : FnM Tryz.prog 91 fun91 := SC.okM s91 rfl (fn := Tryz.f91) (by kernel_rfl) (by kernel_rfl)
noncomputable def s99 : SC (Tryz.f99.body.getD .skip) := SC.mk' (by simp only [Tryz.f99, go_sem]; rfl)
noncomputable def fun99 : Fun := ⟨[0, 1, 8, 56, 3, 4, 5, 6, 54, 13, 19, 23, 36, 37, 44, 55, 57, 67, 79, 2], [1, 8], [], 1, s99.1, [.tmp 2], 6⟩
theorem ok99 : FnM Tryz.prog 99 fun99 := SC.okM s99 rfl (fn := Tryz.f99) (by kernel_rfl) (by kernel_rfl)
noncomputable def s103 : SC (Tryz.f103.body.getD .skip) := SC.mk' (by simp only [Tryz.f103, go_sem]; rfl)
noncomputable def fun103 : Fun := ⟨[0, 1, 8, 5, 7, 9, 16, 4], [], [], 2, s103.1, [.tmp 4], 0⟩
theorem ok103 : FnM Tryz.prog 103 fun103 := SC.okM s103 rfl (fn := Tryz.f103) (by kernel_rfl) (by kernel_rfl)
noncomputable def s104 : SC (Tryz.f104.body.getD .skip) := SC.mk' (by simp only [Tryz.f104, go_sem]; rfl)
noncomputable def fun104 : Fun := ⟨[0, 1, 2, 4, 5, 13, 3], [1, 2, 4], [], 1, s104.1, [.cell 2 true 26, .tmp 3], 1⟩
theorem ok104 : FnM Tryz.prog 104 fun104 := SC.okM s104 rfl (fn := Tryz.f104) (by kernel_rfl) (by kernel_rfl)
noncomputable def s105 : SC (Tryz.f105.body.getD .skip) := SC.mk' (by simp only [Tryz.f105, go_sem]; rfl)
noncomputable def fun105 : Fun := ⟨[0, 1, 2, 6], [], [], 3, s105.1, [.tmp 6], 0⟩
theorem ok105 : FnM Tryz.prog 105 fun105 := SC.okM s105 rfl (fn := Tryz.f105) (by kernel_rfl) (by kernel_rfl)
noncomputable def s125 : SC (Tryz.f125.body.getD .skip) := SC.mk' (by simp only [Tryz.f125, go_sem]; rfl)
noncomputable def fun125 : Fun := ⟨[0, 1, 2], [], [], 1, s125.1, [.tmp 2], 3⟩
theorem ok125 : FnM Tryz.prog 125 fun125 := SC.okM s125 rfl (fn := Tryz.f125) (by kernel_rfl) (by kernel_rfl)
noncomputable def s127 : SC (Tryz.f127.body.getD .skip) := SC.mk' (by simp only [Tryz.f127, go_sem]; rfl)
noncomputable def fun127 : Fun := ⟨[0, 1, 2, 4, 14, 5], [2, 4], [], 2, s127.1, [.cell 4 true 4, .tmp 5], 0⟩
theorem ok127 : FnM Tryz.prog 127 fun127 := SC.okM s127 rfl (fn := Tryz.f127) (by kernel_rfl) (by kernel_rfl)
noncomputable def s131 : SC (Tryz.f131.body.getD .skip) := SC.mk' (by simp only [Tryz.f131, go_sem]; rfl)
noncomputable def fun131 : Fun := ⟨[0, 4, 2], [], [], 1, s131.1, [.tmp 2], 0⟩
theorem ok131 : FnM Tryz.prog 131 fun131 := SC.okM s131 rfl (fn := Tryz.f131) (by kernel_rfl) (by kernel_rfl)
noncomputable def s133 : SC (Tryz.f133.body.getD .skip) := SC.mk' (by simp only [Tryz.f133, go_sem]; rfl)
noncomputable def fun133 : Fun := ⟨[0, 1, 2, 4, 9, 5], [2, 4], [], 2, s133.1, [.cell 4 true 8, .tmp 5], 1⟩
theorem ok133 : FnM Tryz.prog 133 fun133 := SC.okM s133 rfl (fn := Tryz.f133) (by kernel_rfl) (by kernel_rfl)
noncomputable def s140 : SC (Tryz.f140.body.getD .skip) := SC.mk' (by simp only [Tryz.f140, go_sem]; rfl)
noncomputable def fun140 : Fun := ⟨[0, 1, 2, 3, 8, 11, 4, 5, 10, 12, 18, 27, 43, 9], [4, 5, 8, 11], [], 4, s140.1, [.cell 8 true 4, .tmp 9], 10⟩
theorem ok140 : FnM Tryz.prog 140 fun140 := SC.okM s140 rfl (fn := Tryz.f140) (by kernel_rfl) (by kernel_rfl)
noncomputable def s146 : SC (Tryz.f146.body.getD .skip) := SC.mk' (by simp only [Tryz.f146, go_sem]; rfl)
noncomputable def fun146 : Fun := ⟨[0, 1, 2], [1], [], 1, s146.1, [.tmp 2], 1⟩
theorem ok146 : FnM Tryz.prog 146 fun146 := SC.okM s146 rfl (fn := Tryz.f146) (by kernel_rfl) (by kernel_rfl)
noncomputable def s148 : SC (Tryz.f148.body.getD .skip) := SC.mk' (by simp only [Tryz.f148, go_sem]; rfl)
noncomputable def fun148 : Fun := ⟨[0, 1, 2], [1, 2], [], 1, s148.1, [.cell 2 true 8], 1⟩
theorem ok148 : FnM Tryz.prog 148 fun148 := SC.okM s148 rfl (fn := Tryz.f148) (by kernel_rfl) (by kernel_rfl)
noncomputable def s187 : SC (Tryz.f187.body.getD .skip) := SC.mk' (by simp only [Tryz.f187, go_sem]; rfl)
noncomputable def fun187 : Fun := ⟨[0, 1, 5, 6, 7, 12, 19, 29, 4], [], [], 2, s187.1, [.tmp 4], 2⟩
theorem ok187 : FnM Tryz.prog 187 fun187 := SC.okM s187 rfl (fn := Tryz.f187) (by kernel_rfl) (by kernel_rfl)
noncomputable def s194 : SC (Tryz.f194.body.getD .skip) := SC.mk' (by simp only [Tryz.f194, go_sem]; rfl)
noncomputable def fun194 : Fun := ⟨[0, 4, 2], [], [], 1, s194.1, [.tmp 2], 0⟩
theorem ok194 : FnM Tryz.prog 194 fun194 := SC.okM s194 rfl (fn := Tryz.f194) (by kernel_rfl) (by kernel_rfl)
noncomputable def s204 : SC (Tryz.f204.body.getD .skip) := SC.mk' (by simp only [Tryz.f204, go_sem]; rfl)
noncomputable def fun204 : Fun := ⟨[0, 1, 15, 4, 13, 11, 14, 16, 28, 2], [1, 4], [], 1, s204.1, [.tmp 2], 2⟩
theorem ok204 : FnM Tryz.prog 204 fun204 := SC.okM s204 rfl (fn := Tryz.f204) (by kernel_rfl) (by kernel_rfl)
noncomputable def s206 : SC (Tryz.f206.body.getD .skip) := SC.mk' (by simp only [Tryz.f206, go_sem]; rfl)
noncomputable def fun206 : Fun := ⟨[0, 1, 4], [], [], 2, s206.1, [.tmp 4], 2⟩
theorem ok206 : FnM Tryz.prog 206 fun206 := SC.okM s206 rfl (fn := Tryz.f206) (by kernel_rfl) (by kernel_rfl)
noncomputable def s207 : SC (Tryz.f207.body.getD .skip) := SC.mk' (by simp only [Tryz.f207, go_sem]; rfl)
noncomputable def fun207 : Fun := ⟨[0, 1, 2, 3], [2], [], 2, s207.1, [.tmp 3], 0⟩
theorem ok207 : FnM Tryz.prog 207 fun207 := SC.okM s207 rfl (fn := Tryz.f207) (by kernel_rfl) (by kernel_rfl)
noncomputable def s260 : SC (Tryz.f260.body.getD .skip) := SC.mk' (by simp only [Tryz.f260, go_sem]; rfl)
noncomputable def fun260 : Fun := ⟨[0, 1, 2, 3, 6, 9, 10, 23, 26, 7, 8], [3, 6], [], 3, s260.1, [.cell 6 true 11, .tmp 7, .tmp 8], 2⟩
theorem ok260 : FnM Tryz.prog 260 fun260 := SC.okM s260 rfl (fn := Tryz.f260) (by kernel_rfl) (by kernel_rfl)
noncomputable def s267 : SC (Tryz.f267.body.getD .skip) := SC.mk' (by simp only [Tryz.f267, go_sem]; rfl)
noncomputable def fun267 : Fun := ⟨[0, 1, 5, 2, 9, 12, 4], [2], [], 2, s267.1, [.tmp 4], 8⟩
theorem ok267 : FnM Tryz.prog 267 fun267 := SC.okM s267 rfl (fn := Tryz.f267) (by kernel_rfl) (by kernel_rfl)
noncomputable def s304 : SC (Tryz.f304.body.getD .skip) := SC.mk' (by simp only [Tryz.f304, go_sem]; rfl)
noncomputable def fun304 : Fun := ⟨[0, 1, 2, 3, 6, 11], [3, 6], [], 3, s304.1, [.cell 6 true 11], 1⟩
theorem ok304 : FnM Tryz.prog 304 fun304 := SC.okM s304 rfl (fn := Tryz.f304) (by kernel_rfl) (by kernel_rfl)
noncomputable def s334 : SC (Tryz.f334.body.getD .skip) := SC.mk' (by simp only [Tryz.f334, go_sem]; rfl)
noncomputable def fun334 : Fun := ⟨[0, 1, 8, 5, 7, 9, 16, 4], [], [], 2, s334.1, [.tmp 4], 0⟩
theorem ok334 : FnM Tryz.prog 334 fun334 := SC.okM s334 rfl (fn := Tryz.f334) (by kernel_rfl) (by kernel_rfl)
end Go.M
