/-
  The codes of functions, as the machine takes them.
  No condition: definitions and lemmas.
-/
import Derived.Test.YtfffmopgodknpaaGreatQtyB
set_option linter.all false
set_option maxRecDepth 100000
set_option maxHeartbeats 4000000
namespace Go.M
open Go Go.Proofs
open Go.Eng (SOp SOper SCode sizeP aggP zerosOf bytesP zeroVal stripCode stripOps stripOper strip stripParts kindsOf)

noncomputable def s6 : SC (Tryz.f6.body.getD .skip) := SC.mk' (by simp only [Tryz.f6, go_sem]; rfl)
noncomputable def fun6 : Fun := ⟨[0, 12, 5, 9, 11, 15, 4, 7, 13, 14, 3, 6, 8, 23, 10, 67, 70, 130, 132, 145, 168, 2], [4, 5, 7], [], 1, s6.1, [.tmp 2], 1300⟩
theorem ok6 : FnM Tryz.prog 6 fun6 := SC.okM s6 rfl (fn := Tryz.f6) (by kernel_rfl) (by kernel_rfl)
noncomputable def s9 : SC (Tryz.f9.body.getD .skip) := SC.mk' (by simp only [Tryz.f9, go_sem]; rfl)
noncomputable def fun9 : Fun := ⟨[0, 1, 2, 6], [], [], 3, s9.1, [.tmp 6], 0⟩
theorem ok9 : FnM Tryz.prog 9 fun9 := SC.okM s9 rfl (fn := Tryz.f9) (by kernel_rfl) (by kernel_rfl)
noncomputable def s14 : SC (Tryz.f14.body.getD .skip) := SC.mk' (by simp only [Tryz.f14, go_sem]; rfl)
noncomputable def fun14 : Fun := ⟨[0, 1, 2, 3, 8, 6, 5, 11, 12, 22, 30, 37, 9], [5, 6, 8, 10], [], 4, s14.1, [.cell 8 true 63, .tmp 9], 195⟩
theorem ok14 : FnM Tryz.prog 14 fun14 := SC.okM s14 rfl (fn := Tryz.f14) (by kernel_rfl) (by kernel_rfl)
noncomputable def s20 : SC (Tryz.f20.body.getD .skip) := SC.mk' (by simp only [Tryz.f20, go_sem]; rfl)
noncomputable def fun20 : Fun := ⟨[0, 1, 2, 6], [6], [], 3, s20.1, [.cell 6 true 8], 0⟩
theorem ok20 : FnM Tryz.prog 20 fun20 := SC.okM s20 rfl (fn := Tryz.f20) (by kernel_rfl) (by kernel_rfl)
noncomputable def s21 : SC (Tryz.f21.body.getD .skip) := SC.mk' (by simp only [Tryz.f21, go_sem]; rfl)
noncomputable def fun21 : Fun := ⟨[0, 1, 5, 7, 2, 4, 15], [2, 4, 5], [], 2, s21.1, [.cell 4 true 11], 1170⟩
theorem ok21 : FnM Tryz.prog 21 fun21 := SC.okM s21 rfl (fn := Tryz.f21) (by kernel_rfl) (by kernel_rfl)
noncomputable def s25 : SC (Tryz.f25.body.getD .skip) := SC.mk' (by simp only [Tryz.f25, go_sem]; rfl)
noncomputable def fun25 : Fun := ⟨[0, 3, 4, 11, 2], [], [], 1, s25.1, [.tmp 2], 0⟩
theorem ok25 : FnM Tryz.prog 25 fun25 := SC.okM s25 rfl (fn := Tryz.f25) (by kernel_rfl) (by kernel_rfl)
noncomputable def s55 : SC (Tryz.f55.body.getD .skip) := SC.mk' (by simp only [Tryz.f55, go_sem]; rfl)
noncomputable def fun55 : Fun := ⟨[0, 1, 2, 3, 4, 29, 7, 27, 10, 24, 28, 30, 6, 51, 61, 67, 5], [2, 3, 4], [], 2, s55.1, [.cell 4 true 26, .tmp 5], 195⟩
theorem ok55 : FnM Tryz.prog 55 fun55 := SC.okM s55 rfl (fn := Tryz.f55) (by kernel_rfl) (by kernel_rfl)
noncomputable def s61 : SC (Tryz.f61.body.getD .skip) := SC.mk' (by simp only [Tryz.f61, go_sem]; rfl)
noncomputable def fun61 : Fun := ⟨[0, 2, 4, 5, 12, 3], [2, 4], [], 1, s61.1, [.cell 2 true 8, .tmp 3], 65⟩
theorem ok61 : FnM Tryz.prog 61 fun61 := SC.okM s61 rfl (fn := Tryz.f61) (by kernel_rfl) (by kernel_rfl)
noncomputable def s87 : SC (Tryz.f87.body.getD .skip) := SC.mk' (by simp only [Tryz.f87, go_sem]; rfl)
noncomputable def fun87 : Fun := ⟨[0, 3, 4, 5, 35, 2], [], [], 1, s87.1, [.tmp 2], 780⟩
theorem ok87 : FnM Tryz.prog 87 fun87 := SC.okM s87 rfl (fn := Tryz.f87) (by kernel_rfl) (by kernel_rfl)
noncomputable def s95 : SC (Tryz.f95.body.getD .skip) := SC.mk' (by simp only [Tryz.f95, go_sem]; rfl)
noncomputable def fun95 : Fun := ⟨[0, 1, 2, 3, 7, 4, 6, 36], [3, 4, 6, 7], [], 3, s95.1, [.cell 6 true 63], 65⟩
theorem ok95 : FnM Tryz.prog 95 fun95 := SC.okM s95 rfl (fn := Tryz.f95) (by kernel_rfl) (by kernel_rfl)
noncomputable def s134 : SC (Tryz.f134.body.getD .skip) := SC.mk' (by simp only [Tryz.f134, go_sem]; rfl)
noncomputable def fun134 : Fun := ⟨[0, 3, 30, 32, 47, 57, 2], [], [], 1, s134.1, [.tmp 2], 325⟩
theorem ok134 : FnM Tryz.prog 134 fun134 := SC.okM s134 rfl (fn := Tryz.f134) (by kernel_rfl) (by kernel_rfl)
noncomputable def s135 : SC (Tryz.f135.body.getD .skip) := SC.mk' (by simp only [Tryz.f135, go_sem]; rfl)
noncomputable def fun135 : Fun := ⟨[0, 3, 8, 7, 4, 5, 22, 38, 6, 78, 92, 112, 145, 2], [5, 7], [], 1, s135.1, [.tmp 2], 260⟩
theorem ok135 : FnM Tryz.prog 135 fun135 := SC.okM s135 rfl (fn := Tryz.f135) (by kernel_rfl) (by kernel_rfl)
noncomputable def s150 : SC (Tryz.f150.body.getD .skip) := SC.mk' (by simp only [Tryz.f150, go_sem]; rfl)
noncomputable def fun150 : Fun := ⟨[0, 2, 9, 3], [2], [], 1, s150.1, [.cell 2 true 2, .tmp 3], 0⟩
theorem ok150 : FnM Tryz.prog 150 fun150 := SC.okM s150 rfl (fn := Tryz.f150) (by kernel_rfl) (by kernel_rfl)
noncomputable def s152 : SC (Tryz.f152.body.getD .skip) := SC.mk' (by simp only [Tryz.f152, go_sem]; rfl)
noncomputable def fun152 : Fun := ⟨[0, 1, 2], [1, 2], [], 1, s152.1, [.cell 2 true 3], 0⟩
theorem ok152 : FnM Tryz.prog 152 fun152 := SC.okM s152 rfl (fn := Tryz.f152) (by kernel_rfl) (by kernel_rfl)
noncomputable def s178 : SC (Tryz.f178.body.getD .skip) := SC.mk' (by simp only [Tryz.f178, go_sem]; rfl)
noncomputable def fun178 : Fun := ⟨[0, 1, 3, 7, 11, 2], [1], [], 1, s178.1, [.tmp 2], 455⟩
theorem ok178 : FnM Tryz.prog 178 fun178 := SC.okM s178 rfl (fn := Tryz.f178) (by kernel_rfl) (by kernel_rfl)
noncomputable def s202 : SC (Tryz.f202.body.getD .skip) := SC.mk' (by simp only [Tryz.f202, go_sem]; rfl)
noncomputable def fun202 : Fun := ⟨[0, 1], [], [], 2, s202.1, [], 0⟩
theorem ok202 : FnM Tryz.prog 202 fun202 := SC.okM s202 rfl (fn := Tryz.f202) (by kernel_rfl) (by kernel_rfl)
noncomputable def s205 : SC (Tryz.f205.body.getD .skip) := SC.mk' (by simp only [Tryz.f205, go_sem]; rfl)
noncomputable def fun205 : Fun := ⟨[0, 1, 2, 4, 10, 16, 3], [1, 2], [], 1, s205.1, [.cell 2 true 4, .tmp 3], 65⟩
theorem ok205 : FnM Tryz.prog 205 fun205 := SC.okM s205 rfl (fn := Tryz.f205) (by kernel_rfl) (by kernel_rfl)
noncomputable def s209 : SC (Tryz.f209.body.getD .skip) := SC.mk' (by simp only [Tryz.f209, go_sem]; rfl)
noncomputable def fun209 : Fun := ⟨[0, 1, 2, 4, 9, 5], [2, 4], [], 2, s209.1, [.cell 4 true 8, .tmp 5], 65⟩
theorem ok209 : FnM Tryz.prog 209 fun209 := SC.okM s209 rfl (fn := Tryz.f209) (by kernel_rfl) (by kernel_rfl)
noncomputable def s210 : SC (Tryz.f210.body.getD .skip) := SC.mk' (by simp only [Tryz.f210, go_sem]; rfl)
noncomputable def fun210 : Fun := ⟨[0, 2], [], [], 1, s210.1, [.tmp 2], 0⟩
theorem ok210 : FnM Tryz.prog 210 fun210 := SC.okM s210 rfl (fn := Tryz.f210) (by kernel_rfl) (by kernel_rfl)
noncomputable def s213 : SC (Tryz.f213.body.getD .skip) := SC.mk' (by simp only [Tryz.f213, go_sem]; rfl)
noncomputable def fun213 : Fun := ⟨[0, 1, 2, 3, 4, 8, 7, 10, 11, 17, 23, 39, 9], [4, 7, 8], [], 4, s213.1, [.cell 8 true 11, .tmp 9], 455⟩
theorem ok213 : FnM Tryz.prog 213 fun213 := SC.okM s213 rfl (fn := Tryz.f213) (by kernel_rfl) (by kernel_rfl)
noncomputable def s224 : SC (Tryz.f224.body.getD .skip) := SC.mk' (by simp only [Tryz.f224, go_sem]; rfl)
noncomputable def fun224 : Fun := ⟨[0, 1, 2], [1, 2], [], 1, s224.1, [.cell 2 true 8], 65⟩
theorem ok224 : FnM Tryz.prog 224 fun224 := SC.okM s224 rfl (fn := Tryz.f224) (by kernel_rfl) (by kernel_rfl)
noncomputable def s235 : SC (Tryz.f235.body.getD .skip) := SC.mk' (by simp only [Tryz.f235, go_sem]; rfl)
noncomputable def fun235 : Fun := ⟨[0, 1, 3, 39, 37, 5, 9, 26, 31, 38, 40, 4, 50, 54, 2], [1, 5], [], 1, s235.1, [.tmp 2], 260⟩
theorem ok235 : FnM Tryz.prog 235 fun235 := SC.okM s235 rfl (fn := Tryz.f235) (by kernel_rfl) (by kernel_rfl)
noncomputable def s237 : SC (Tryz.f237.body.getD .skip) := SC.mk' (by simp only [Tryz.f237, go_sem]; rfl)
noncomputable def fun237 : Fun := ⟨[0, 1, 5, 2], [1], [], 1, s237.1, [.tmp 2], 455⟩
theorem ok237 : FnM Tryz.prog 237 fun237 := SC.okM s237 rfl (fn := Tryz.f237) (by kernel_rfl) (by kernel_rfl)
noncomputable def s277 : SC (Tryz.f277.body.getD .skip) := SC.mk' (by simp only [Tryz.f277, go_sem]; rfl)
noncomputable def fun277 : Fun := ⟨[0, 1, 2, 6], [], [], 3, s277.1, [.tmp 6], 0⟩
theorem ok277 : FnM Tryz.prog 277 fun277 := SC.okM s277 rfl (fn := Tryz.f277) (by kernel_rfl) (by kernel_rfl)
noncomputable def s303 : SC (Tryz.f303.body.getD .skip) := SC.mk' (by simp only [Tryz.f303, go_sem]; rfl)
noncomputable def fun303 : Fun := ⟨[0, 1, 2, 4, 3, 6, 7, 10, 21, 9, 38, 42, 53, 55, 8], [3, 4, 6, 7], [], 3, s303.1, [.cell 6 true 11, .cell 7 true 5, .tmp 8], 195⟩
theorem ok303 : FnM Tryz.prog 303 fun303 := SC.okM s303 rfl (fn := Tryz.f303) (by kernel_rfl) (by kernel_rfl)
noncomputable def s308 : SC (Tryz.f308.body.getD .skip) := SC.mk' (by simp only [Tryz.f308, go_sem]; rfl)
noncomputable def fun308 : Fun := ⟨[0, 1, 2, 3, 7, 17, 6], [3], [], 3, s308.1, [.tmp 6], 130⟩
theorem ok308 : FnM Tryz.prog 308 fun308 := SC.okM s308 rfl (fn := Tryz.f308) (by kernel_rfl) (by kernel_rfl)
noncomputable def s322 : SC (Tryz.f322.body.getD .skip) := SC.mk' (by simp only [Tryz.f322, go_sem]; rfl)
noncomputable def fun322 : Fun := ⟨[0, 4, 2], [], [], 1, s322.1, [.tmp 2], 0⟩
theorem ok322 : FnM Tryz.prog 322 fun322 := SC.okM s322 rfl (fn := Tryz.f322) (by kernel_rfl) (by kernel_rfl)
noncomputable def s335 : SC (Tryz.f335.body.getD .skip) := SC.mk' (by simp only [Tryz.f335, go_sem]; rfl)
noncomputable def fun335 : Fun := ⟨[0, 1, 3, 4], [], [], 2, s335.1, [.tmp 4], 130⟩
theorem ok335 : FnM Tryz.prog 335 fun335 := SC.okM s335 rfl (fn := Tryz.f335) (by kernel_rfl) (by kernel_rfl)
noncomputable def s337 : SC (Tryz.f337.body.getD .skip) := SC.mk' (by simp only [Tryz.f337, go_sem]; rfl)
noncomputable def fun337 : Fun := ⟨[0, 1, 2, 4, 3, 6, 7, 11, 14, 24, 29, 46, 5], [2, 3, 4], [], 2, s337.1, [.cell 4 true 8, .tmp 5], 780⟩
theorem ok337 : FnM Tryz.prog 337 fun337 := SC.okM s337 rfl (fn := Tryz.f337) (by kernel_rfl) (by kernel_rfl)
noncomputable def s356 : SC (Tryz.f356.body.getD .skip) := SC.mk' (by simp only [Tryz.f356, go_sem]; rfl)
noncomputable def fun356 : Fun := ⟨[0, 1, 2, 6, 3, 8, 9, 16, 25, 7], [3, 6], [], 3, s356.1, [.cell 6 true 11, .tmp 7], 130⟩
theorem ok356 : FnM Tryz.prog 356 fun356 := SC.okM s356 rfl (fn := Tryz.f356) (by kernel_rfl) (by kernel_rfl)
noncomputable def s357 : SC (Tryz.f357.body.getD .skip) := SC.mk' (by simp only [Tryz.f357, go_sem]; rfl)
noncomputable def fun357 : Fun := ⟨[0, 1, 8, 5, 7, 9, 16, 4], [], [], 2, s357.1, [.tmp 4], 65⟩
theorem ok357 : FnM Tryz.prog 357 fun357 := SC.okM s357 rfl (fn := Tryz.f357) (by kernel_rfl) (by kernel_rfl)
noncomputable def s365 : SC (Tryz.f365.body.getD .skip) := SC.mk' (by simp only [Tryz.f365, go_sem]; rfl)
noncomputable def fun365 : Fun := ⟨[0, 1, 2, 4], [2], [], 2, s365.1, [.tmp 4], 0⟩
theorem ok365 : FnM Tryz.prog 365 fun365 := SC.okM s365 rfl (fn := Tryz.f365) (by kernel_rfl) (by kernel_rfl)
noncomputable def s369 : SC (Tryz.f369.body.getD .skip) := SC.mk' (by simp only [Tryz.f369, go_sem]; rfl)
noncomputable def fun369 : Fun := ⟨[0, 1, 15, 4, 13, 11, 14, 16, 28, 2], [1, 4], [], 1, s369.1, [.tmp 2], 130⟩
theorem ok369 : FnM Tryz.prog 369 fun369 := SC.okM s369 rfl (fn := Tryz.f369) (by kernel_rfl) (by kernel_rfl)
noncomputable def s371 : SC (Tryz.f371.body.getD .skip) := SC.mk' (by simp only [Tryz.f371, go_sem]; rfl)
noncomputable def fun371 : Fun := ⟨[0, 1, 2], [1, 2], [], 1, s371.1, [.cell 2 true 3], 65⟩
theorem ok371 : FnM Tryz.prog 371 fun371 := SC.okM s371 rfl (fn := Tryz.f371) (by kernel_rfl) (by kernel_rfl)
noncomputable def s375 : SC (Tryz.f375.body.getD .skip) := SC.mk' (by simp only [Tryz.f375, go_sem]; rfl)
noncomputable def fun375 : Fun := ⟨[0, 1, 2, 6], [], [], 3, s375.1, [.tmp 6], 0⟩
theorem ok375 : FnM Tryz.prog 375 fun375 := SC.okM s375 rfl (fn := Tryz.f375) (by kernel_rfl) (by kernel_rfl)
noncomputable def s388 : SC (Tryz.f388.body.getD .skip) := SC.mk' (by simp only [Tryz.f388, go_sem]; rfl)
noncomputable def fun388 : Fun := ⟨[0, 1, 4], [], [], 2, s388.1, [.tmp 4], 195⟩
theorem ok388 : FnM Tryz.prog 388 fun388 := SC.okM s388 rfl (fn := Tryz.f388) (by kernel_rfl) (by kernel_rfl)
end Go.M
