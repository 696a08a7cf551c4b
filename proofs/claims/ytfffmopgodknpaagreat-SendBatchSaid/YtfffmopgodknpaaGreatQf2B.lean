/-
  The codes of functions, as the machine takes them.
  No condition: definitions and lemmas.
-/
import Derived.Test.YtfffmopgodknpaaGreatQtyB
set_option linter.all false
set_option maxRecDepth 100000
set_option maxHeartbeats 4000000
namespace Go.M
open Go Go.Proofs
open Go.Eng (SOp SOper SCode sizeP aggP zerosOf bytesP zeroVal stripCode stripOps stripOper strip stripParts kindsOf)

noncomputable def s24 : SC (Tryz.f24.body.getD .skip) := SC.mk' (by simp only [Tryz.f24, go_sem]; rfl)
noncomputable def fun24 : Fun := ⟨[0, 1, 5, 9, 18, 4], [], [], 2, s24.1, [.tmp 4], 0⟩
theorem ok24 : FnM Tryz.prog 24 fun24 := SC.okM s24 rfl (fn := Tryz.f24) (by kernel_rfl) (by kernel_rfl)
noncomputable def s35 : SC (Tryz.f35.body.getD .skip) := SC.mk' (by simp only [Tryz.f35, go_sem]; rfl)
noncomputable def fun35 : Fun := ⟨[0, 1, 2, 11, 5, 6, 63, 86, 3, 38, 109, 129, 12, 23, 28, 37, 62, 76, 85, 108, 116, 117, 128, 4], [2, 3], [], 2, s35.1, [.tmp 4], 65⟩
theorem ok35 : FnM Tryz.prog 35 fun35 := SC.okM s35 rfl (fn := Tryz.f35) (by kernel_rfl) (by kernel_rfl)
noncomputable def s52 : SC (Tryz.f52.body.getD .skip) := SC.mk' (by simp only [Tryz.f52, go_sem]; rfl)
noncomputable def fun52 : Fun := ⟨[0, 1, 4, 6, 7, 14, 22, 5], [4, 6], [], 2, s52.1, [.cell 4 true 26, .tmp 5], 130⟩
theorem ok52 : FnM Tryz.prog 52 fun52 := SC.okM s52 rfl (fn := Tryz.f52) (by kernel_rfl) (by kernel_rfl)
noncomputable def s90 : SC (Tryz.f90.body.getD .skip) := SC.mk' (by simp only [Tryz.f90, go_sem]; rfl)
noncomputable def fun90 : Fun := ⟨[0, 1, 2], [1, 2], [], 1, s90.1, [.cell 2 true 6], 0⟩
theorem ok90 : FnM Tryz.prog 90 fun90 := SC.okM s90 rfl (fn := Tryz.f90) (by kernel_rfl) (by kernel_rfl)
noncomputable def s94 : SC (Tryz.f94.body.getD .skip) := SC.mk' (by simp only [Tryz.f94, go_sem]; rfl)
noncomputable def fun94 : Fun := ⟨[0, 1, 2, 8, 3], [1, 2], [], 1, s94.1, [.cell 2 true 26, .tmp 3], 130⟩
theorem ok94 : FnM Tryz.prog 94 fun94 := SC.okM s94 rfl (fn := Tryz.f94) (by kernel_rfl) (by kernel_rfl)
noncomputable def s97 : SC (Tryz.f97.body.getD .skip) := SC.mk' (by simp only [Tryz.f97, go_sem]; rfl)
noncomputable def fun97 : Fun := ⟨[0, 1, 3, 6, 2], [1], [], 1, s97.1, [.tmp 2], 0⟩
theorem ok97 : FnM Tryz.prog 97 fun97 := SC.okM s97 rfl (fn := Tryz.f97) (by kernel_rfl) (by kernel_rfl)
noncomputable def s99 : SC (Tryz.f99.body.getD .skip) := SC.mk' (by simp only [Tryz.f99, go_sem]; rfl)
noncomputable def fun99 : Fun := ⟨[0, 1, 3, 2, 8, 4, 5, 7, 21, 26, 6], [2, 3, 4, 5], [], 2, s99.1, [.cell 4 true 11, .cell 5 true 63, .tmp 6], 195⟩
theorem ok99 : FnM Tryz.prog 99 fun99 := SC.okM s99 rfl (fn := Tryz.f99) (by kernel_rfl) (by kernel_rfl)
noncomputable def s103 : SC (Tryz.f103.body.getD .skip) := SC.mk' (by simp only [Tryz.f103, go_sem]; rfl)
noncomputable def fun103 : Fun := ⟨[0, 1, 4, 3, 8, 2], [1], [], 1, s103.1, [.tmp 2], 0⟩
theorem ok103 : FnM Tryz.prog 103 fun103 := SC.okM s103 rfl (fn := Tryz.f103) (by kernel_rfl) (by kernel_rfl)
noncomputable def s105 : SC (Tryz.f105.body.getD .skip) := SC.mk' (by simp only [Tryz.f105, go_sem]; rfl)
noncomputable def fun105 : Fun := ⟨[0, 1, 4], [], [], 2, s105.1, [.tmp 4], 0⟩
theorem ok105 : FnM Tryz.prog 105 fun105 := SC.okM s105 rfl (fn := Tryz.f105) (by kernel_rfl) (by kernel_rfl)
noncomputable def s133 : SC (Tryz.f133.body.getD .skip) := SC.mk' (by simp only [Tryz.f133, go_sem]; rfl)
noncomputable def fun133 : Fun := ⟨[0, 4, 2], [], [], 1, s133.1, [.tmp 2], 0⟩
theorem ok133 : FnM Tryz.prog 133 fun133 := SC.okM s133 rfl (fn := Tryz.f133) (by kernel_rfl) (by kernel_rfl)
noncomputable def s136 : SC (Tryz.f136.body.getD .skip) := SC.mk' (by simp only [Tryz.f136, go_sem]; rfl)
noncomputable def fun136 : Fun := ⟨[0, 3, 4, 5, 6, 28, 44, 64, 95, 2], [5], [], 1, s136.1, [.tmp 2], 130⟩
theorem ok136 : FnM Tryz.prog 136 fun136 := SC.okM s136 rfl (fn := Tryz.f136) (by kernel_rfl) (by kernel_rfl)
noncomputable def s143 : SC (Tryz.f143.body.getD .skip) := SC.mk' (by simp only [Tryz.f143, go_sem]; rfl)
noncomputable def fun143 : Fun := ⟨[0, 1, 5, 2], [1], [], 1, s143.1, [.tmp 2], 195⟩
theorem ok143 : FnM Tryz.prog 143 fun143 := SC.okM s143 rfl (fn := Tryz.f143) (by kernel_rfl) (by kernel_rfl)
noncomputable def s144 : SC (Tryz.f144.body.getD .skip) := SC.mk' (by simp only [Tryz.f144, go_sem]; rfl)
noncomputable def fun144 : Fun := ⟨[0, 1, 8, 5, 7, 9, 16, 4], [], [], 2, s144.1, [.tmp 4], 0⟩
theorem ok144 : FnM Tryz.prog 144 fun144 := SC.okM s144 rfl (fn := Tryz.f144) (by kernel_rfl) (by kernel_rfl)
noncomputable def s154 : SC (Tryz.f154.body.getD .skip) := SC.mk' (by simp only [Tryz.f154, go_sem]; rfl)
noncomputable def fun154 : Fun := ⟨[0, 1, 6, 2, 3, 7, 8, 10, 9, 11, 28, 52, 71, 106, 117, 4, 5], [1, 2, 3, 6, 7, 8, 9, 11], [85, 90], 1, s154.1, [.cell 2 true 63, .cell 3 true 6, .tmp 4, .tmp 5], 910⟩
theorem ok154 : FnM Tryz.prog 154 fun154 := SC.okM s154 rfl (fn := Tryz.f154) (by kernel_rfl) (by kernel_rfl)
noncomputable def s203 : SC (Tryz.f203.body.getD .skip) := SC.mk' (by simp only [Tryz.f203, go_sem]; rfl)
noncomputable def fun203 : Fun := ⟨[0, 1, 2, 4, 14, 5], [2, 4], [], 2, s203.1, [.cell 4 true 4, .tmp 5], 0⟩
theorem ok203 : FnM Tryz.prog 203 fun203 := SC.okM s203 rfl (fn := Tryz.f203) (by kernel_rfl) (by kernel_rfl)
noncomputable def s204 : SC (Tryz.f204.body.getD .skip) := SC.mk' (by simp only [Tryz.f204, go_sem]; rfl)
noncomputable def fun204 : Fun := ⟨[0, 2], [], [], 1, s204.1, [.tmp 2], 0⟩
theorem ok204 : FnM Tryz.prog 204 fun204 := SC.okM s204 rfl (fn := Tryz.f204) (by kernel_rfl) (by kernel_rfl)
noncomputable def s206 : SC (Tryz.f206.body.getD .skip) := SC.mk' (by simp only [Tryz.f206, go_sem]; rfl)
noncomputable def fun206 : Fun := ⟨[0, 1, 2, 3, 4, 7, 8, 30, 10, 18, 29, 31, 12, 35, 42, 9], [4, 7, 8], [], 4, s206.1, [.cell 8 true 11, .tmp 9], 195⟩
theorem ok206 : FnM Tryz.prog 206 fun206 := SC.okM s206 rfl (fn := Tryz.f206) (by kernel_rfl) (by kernel_rfl)
noncomputable def s218 : SC (Tryz.f218.body.getD .skip) := SC.mk' (by simp only [Tryz.f218, go_sem]; rfl)
noncomputable def fun218 : Fun := ⟨[0, 1, 2], [1], [], 1, s218.1, [.tmp 2], 0⟩
theorem ok218 : FnM Tryz.prog 218 fun218 := SC.okM s218 rfl (fn := Tryz.f218) (by kernel_rfl) (by kernel_rfl)
noncomputable def s221 : SC (Tryz.f221.body.getD .skip) := SC.mk' (by simp only [Tryz.f221, go_sem]; rfl)
noncomputable def fun221 : Fun := ⟨[0, 13, 1, 3, 11, 5, 12, 14, 2], [1, 5], [], 1, s221.1, [.tmp 2], 260⟩
theorem ok221 : FnM Tryz.prog 221 fun221 := SC.okM s221 rfl (fn := Tryz.f221) (by kernel_rfl) (by kernel_rfl)
noncomputable def s226 : SC (Tryz.f226.body.getD .skip) := SC.mk' (by simp only [Tryz.f226, go_sem]; rfl)
noncomputable def fun226 : Fun := ⟨[0, 1, 3, 8, 4, 61, 5, 6, 59, 9, 40, 45, 56, 60, 62, 68, 81, 2], [1, 8], [], 1, s226.1, [.tmp 2], 130⟩
theorem ok226 : FnM Tryz.prog 226 fun226 := SC.okM s226 rfl (fn := Tryz.f226) (by kernel_rfl) (by kernel_rfl)
noncomputable def s228 : SC (Tryz.f228.body.getD .skip) := SC.mk' (by simp only [Tryz.f228, go_sem]; rfl)
noncomputable def fun228 : Fun := ⟨[0, 1, 2, 6, 3], [1, 2], [], 1, s228.1, [.cell 2 true 5, .tmp 3], 0⟩
theorem ok228 : FnM Tryz.prog 228 fun228 := SC.okM s228 rfl (fn := Tryz.f228) (by kernel_rfl) (by kernel_rfl)
noncomputable def s229 : SC (Tryz.f229.body.getD .skip) := SC.mk' (by simp only [Tryz.f229, go_sem]; rfl)
noncomputable def fun229 : Fun := ⟨[0, 1, 2, 6], [], [], 3, s229.1, [.tmp 6], 0⟩
theorem ok229 : FnM Tryz.prog 229 fun229 := SC.okM s229 rfl (fn := Tryz.f229) (by kernel_rfl) (by kernel_rfl)
noncomputable def s233 : SC (Tryz.f233.body.getD .skip) := SC.mk' (by simp only [Tryz.f233, go_sem]; rfl)
noncomputable def fun233 : Fun := ⟨[0, 1, 2, 9, 8, 26, 32, 6, 7], [], [], 3, s233.1, [.tmp 6, .tmp 7], 0⟩
theorem ok233 : FnM Tryz.prog 233 fun233 := SC.okM s233 rfl (fn := Tryz.f233) (by kernel_rfl) (by kernel_rfl)
noncomputable def s234 : SC (Tryz.f234.body.getD .skip) := SC.mk' (by simp only [Tryz.f234, go_sem]; rfl)
noncomputable def fun234 : Fun := ⟨[0, 2], [], [], 1, s234.1, [.tmp 2], 65⟩
theorem ok234 : FnM Tryz.prog 234 fun234 := SC.okM s234 rfl (fn := Tryz.f234) (by kernel_rfl) (by kernel_rfl)
noncomputable def s242 : SC (Tryz.f242.body.getD .skip) := SC.mk' (by simp only [Tryz.f242, go_sem]; rfl)
noncomputable def fun242 : Fun := ⟨[0, 1, 2, 6], [], [], 3, s242.1, [.tmp 6], 0⟩
theorem ok242 : FnM Tryz.prog 242 fun242 := SC.okM s242 rfl (fn := Tryz.f242) (by kernel_rfl) (by kernel_rfl)
noncomputable def s304 : SC (Tryz.f304.body.getD .skip) := SC.mk' (by simp only [Tryz.f304, go_sem]; rfl)
noncomputable def fun304 : Fun := ⟨[0, 1, 2, 4, 3, 6, 7, 9, 20, 37, 54, 58, 8], [3, 4, 6, 7], [], 3, s304.1, [.cell 6 true 11, .cell 7 true 5, .tmp 8], 195⟩
theorem ok304 : FnM Tryz.prog 304 fun304 := SC.okM s304 rfl (fn := Tryz.f304) (by kernel_rfl) (by kernel_rfl)
noncomputable def s310 : SC (Tryz.f310.body.getD .skip) := SC.mk' (by simp only [Tryz.f310, go_sem]; rfl)
noncomputable def fun310 : Fun := ⟨[0, 2], [], [], 1, s310.1, [.tmp 2], 65⟩
theorem ok310 : FnM Tryz.prog 310 fun310 := SC.okM s310 rfl (fn := Tryz.f310) (by kernel_rfl) (by kernel_rfl)
noncomputable def s312 : SC (Tryz.f312.body.getD .skip) := SC.mk' (by simp only [Tryz.f312, go_sem]; rfl)
noncomputable def fun312 : Fun := ⟨[0, 4, 2], [], [], 1, s312.1, [.tmp 2], 0⟩
theorem ok312 : FnM Tryz.prog 312 fun312 := SC.okM s312 rfl (fn := Tryz.f312) (by kernel_rfl) (by kernel_rfl)
noncomputable def s321 : SC (Tryz.f321.body.getD .skip) := SC.mk' (by simp only [Tryz.f321, go_sem]; rfl)
noncomputable def fun321 : Fun := ⟨[0, 1, 2, 3], [2], [], 2, s321.1, [.tmp 3], 0⟩
theorem ok321 : FnM Tryz.prog 321 fun321 := SC.okM s321 rfl (fn := Tryz.f321) (by kernel_rfl) (by kernel_rfl)
noncomputable def s327 : SC (Tryz.f327.body.getD .skip) := SC.mk' (by simp only [Tryz.f327, go_sem]; rfl)
noncomputable def fun327 : Fun := ⟨[0, 1, 38, 42, 2], [1], [], 1, s327.1, [.tmp 2], 65⟩
theorem ok327 : FnM Tryz.prog 327 fun327 := SC.okM s327 rfl (fn := Tryz.f327) (by kernel_rfl) (by kernel_rfl)
noncomputable def s336 : SC (Tryz.f336.body.getD .skip) := SC.mk' (by simp only [Tryz.f336, go_sem]; rfl)
noncomputable def fun336 : Fun := ⟨[0, 1, 11, 4, 41, 7, 9, 48, 10, 12, 3, 5, 36, 40, 42, 6, 47, 49, 51, 59, 2], [1], [], 1, s336.1, [.tmp 2], 195⟩
theorem ok336 : FnM Tryz.prog 336 fun336 := SC.okM s336 rfl (fn := Tryz.f336) (by kernel_rfl) (by kernel_rfl)
noncomputable def s355 : SC (Tryz.f355.body.getD .skip) := SC.mk' (by simp only [Tryz.f355, go_sem]; rfl)
noncomputable def fun355 : Fun := ⟨[0, 1, 2, 3, 6, 9, 10, 23, 26, 7, 8], [3, 6], [], 3, s355.1, [.cell 6 true 11, .tmp 7, .tmp 8], 130⟩
theorem ok355 : FnM Tryz.prog 355 fun355 := SC.okM s355 rfl (fn := Tryz.f355) (by kernel_rfl) (by kernel_rfl)
noncomputable def s368 : SC (Tryz.f368.body.getD .skip) := SC.mk' (by simp only [Tryz.f368, go_sem]; rfl)
noncomputable def fun368 : Fun := ⟨[0, 13, 5, 11, 4, 8, 10, 12, 14, 3, 23, 28, 36, 2], [4], [], 1, s368.1, [.tmp 2], 260⟩
theorem ok368 : FnM Tryz.prog 368 fun368 := SC.okM s368 rfl (fn := Tryz.f368) (by kernel_rfl) (by kernel_rfl)
noncomputable def s377 : SC (Tryz.f377.body.getD .skip) := SC.mk' (by simp only [Tryz.f377, go_sem]; rfl)
noncomputable def fun377 : Fun := ⟨[0, 1, 2, 3], [2], [], 2, s377.1, [.tmp 3], 0⟩
theorem ok377 : FnM Tryz.prog 377 fun377 := SC.okM s377 rfl (fn := Tryz.f377) (by kernel_rfl) (by kernel_rfl)
noncomputable def s383 : SC (Tryz.f383.body.getD .skip) := SC.mk' (by simp only [Tryz.f383, go_sem]; rfl)
noncomputable def fun383 : Fun := ⟨[0, 1, 2, 6, 16, 4, 5], [2], [], 2, s383.1, [.tmp 4, .tmp 5], 0⟩
theorem ok383 : FnM Tryz.prog 383 fun383 := SC.okM s383 rfl (fn := Tryz.f383) (by kernel_rfl) (by kernel_rfl)
noncomputable def s403 : SC (Tryz.f403.body.getD .skip) := SC.mk' (by simp only [Tryz.f403, go_sem]; rfl)
noncomputable def fun403 : Fun := ⟨[0, 1, 8, 5, 7, 9, 16, 4], [], [], 2, s403.1, [.tmp 4], 130⟩
theorem ok403 : FnM Tryz.prog 403 fun403 := SC.okM s403 rfl (fn := Tryz.f403) (by kernel_rfl) (by kernel_rfl)
end Go.M
