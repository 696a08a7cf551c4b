/-
  The codes of functions, as the machine takes them.
  No condition: definitions and lemmas.
-/
import Derived.Test.YthcgieflnpkgnaaGreatQtyB
set_option linter.all false
set_option maxRecDepth 100000
set_option maxHeartbeats 4000000
namespace Go.M
open Go Go.Proofs
open Go.Eng (SOp SOper SCode sizeP aggP zerosOf bytesP zeroVal stripCode stripOps stripOper strip stripParts kindsOf)

noncomputable def s37 : SC (Tryz.f37.body.getD .skip) := SC.mk' (by simp only [Tryz.f37, go_sem]; rfl)
noncomputable def fun37 : Fun := ⟨[0, 1, 2, 4, 5, 12, 3], [1, 2, 4], [], 1, s37.1, [.cell 2 true 23, .tmp 3], 3⟩
theorem ok37 : FnM Tryz.prog 37 fun37 := SC.okM s37 rfl (fn := Tryz.f37) (by kernel_rfl) (by kernel_rfl)
noncomputable def s38 : SC (Tryz.f38.body.getD .skip) := SC.mk' (by simp only [Tryz.f38, go_sem]; rfl)
noncomputable def fun38 : Fun := ⟨[0, 1, 2, 4, 7, 8, 9, 3, 19, 36, 5, 6], [2, 3, 4, 8], [], 2, s38.1, [.cell 4 true 23, .tmp 5, .tmp 6], 4⟩
theorem ok38 : FnM Tryz.prog 38 fun38 := SC.okM s38 rfl (fn := Tryz.f38) (by kernel_rfl) (by kernel_rfl)
noncomputable def s40 : SC (Tryz.f40.body.getD .skip) := SC.mk' (by simp only [Tryz.f40, go_sem]; rfl)
noncomputable def fun40 : Fun := ⟨[0, 1, 2, 4, 3, 6, 7, 26, 10, 11, 13, 17, 12, 27, 36, 53, 65, 8, 9], [3, 4, 6, 7], [], 3, s40.1, [.cell 6 true 11, .cell 7 true 63, .tmp 8, .tmp 9], 16⟩
theorem ok40 : FnM Tryz.prog 40 fun40 := SC.okM s40 rfl (fn := Tryz.f40) (by kernel_rfl) (by kernel_rfl)
noncomputable def s53 : SC (Tryz.f53.body.getD .skip) := SC.mk' (by simp only [Tryz.f53, go_sem]; rfl)
noncomputable def fun53 : Fun := ⟨[0, 1, 8, 5, 7, 9, 16, 4], [], [], 2, s53.1, [.tmp 4], 0⟩
theorem ok53 : FnM Tryz.prog 53 fun53 := SC.okM s53 rfl (fn := Tryz.f53) (by kernel_rfl) (by kernel_rfl)
noncomputable def s64 : SC (Tryz.f64.body.getD .skip) := SC.mk' (by simp only [Tryz.f64, go_sem]; rfl)
noncomputable def fun64 : Fun := ⟨[0, 1, 4, 3, 8, 2], [1], [], 1, s64.1, [.tmp 2], 0⟩
theorem ok64 : FnM Tryz.prog 64 fun64 := SC.okM s64 rfl (fn := Tryz.f64) (by kernel_rfl) (by kernel_rfl)
noncomputable def s66 : SC (Tryz.f66.body.getD .skip) := SC.mk' (by simp only [Tryz.f66, go_sem]; rfl)
noncomputable def fun66 : Fun := ⟨[0, 4, 1, 3, 9, 18, 2], [1], [], 1, s66.1, [.tmp 2], 0⟩
theorem ok66 : FnM Tryz.prog 66 fun66 := SC.okM s66 rfl (fn := Tryz.f66) (by kernel_rfl) (by kernel_rfl)
noncomputable def s76 : SC (Tryz.f76.body.getD .skip) := SC.mk' (by simp only [Tryz.f76, go_sem]; rfl)
noncomputable def fun76 : Fun := ⟨[0, 2], [], [], 1, s76.1, [.tmp 2], 1⟩
theorem ok76 : FnM Tryz.prog 76 fun76 := SC.okM s76 rfl (fn := Tryz.f76) (by kernel_rfl) (by kernel_rfl)
noncomputable def s99 : SC (Tryz.f99.body.getD .skip) := SC.mk' (by simp only [Tryz.f99, go_sem]; rfl)
noncomputable def fun99 : Fun := ⟨[0, 1, 2, 3, 7, 4, 6, 36], [3, 4, 6, 7], [], 3, s99.1, [.cell 6 true 63], 1⟩
theorem ok99 : FnM Tryz.prog 99 fun99 := SC.okM s99 rfl (fn := Tryz.f99) (by kernel_rfl) (by kernel_rfl)
noncomputable def s103 : SC (Tryz.f103.body.getD .skip) := SC.mk' (by simp only [Tryz.f103, go_sem]; rfl)
noncomputable def fun103 : Fun := ⟨[0, 1, 4, 6, 7, 14, 22, 5], [4, 6], [], 2, s103.1, [.cell 4 true 26, .tmp 5], 2⟩
theorem ok103 : FnM Tryz.prog 103 fun103 := SC.okM s103 rfl (fn := Tryz.f103) (by kernel_rfl) (by kernel_rfl)
noncomputable def s104 : SC (Tryz.f104.body.getD .skip) := SC.mk' (by simp only [Tryz.f104, go_sem]; rfl)
noncomputable def fun104 : Fun := ⟨[0, 1, 2, 3, 11, 8, 9, 12, 4, 5, 22, 10], [4, 5, 8, 9], [], 4, s104.1, [.cell 8 true 11, .cell 9 true 26, .tmp 10], 13⟩
theorem ok104 : FnM Tryz.prog 104 fun104 := SC.okM s104 rfl (fn := Tryz.f104) (by kernel_rfl) (by kernel_rfl)
noncomputable def s113 : SC (Tryz.f113.body.getD .skip) := SC.mk' (by simp only [Tryz.f113, go_sem]; rfl)
noncomputable def fun113 : Fun := ⟨[0, 1, 2, 19, 4, 6, 7, 3, 40, 112, 11, 20, 30, 52, 62, 72, 82, 92, 102, 123, 8, 9], [3, 4, 6, 7], [], 3, s113.1, [.cell 6 true 11, .cell 7 true 63, .tmp 8, .tmp 9], 15⟩
theorem ok113 : FnM Tryz.prog 113 fun113 := SC.okM s113 rfl (fn := Tryz.f113) (by kernel_rfl) (by kernel_rfl)
noncomputable def s132 : SC (Tryz.f132.body.getD .skip) := SC.mk' (by simp only [Tryz.f132, go_sem]; rfl)
noncomputable def fun132 : Fun := ⟨[0, 2], [], [], 1, s132.1, [.tmp 2], 0⟩
theorem ok132 : FnM Tryz.prog 132 fun132 := SC.okM s132 rfl (fn := Tryz.f132) (by kernel_rfl) (by kernel_rfl)
noncomputable def s140 : SC (Tryz.f140.body.getD .skip) := SC.mk' (by simp only [Tryz.f140, go_sem]; rfl)
noncomputable def fun140 : Fun := ⟨[0, 3, 4, 5, 35, 2], [], [], 1, s140.1, [.tmp 2], 12⟩
theorem ok140 : FnM Tryz.prog 140 fun140 := SC.okM s140 rfl (fn := Tryz.f140) (by kernel_rfl) (by kernel_rfl)
noncomputable def s147 : SC (Tryz.f147.body.getD .skip) := SC.mk' (by simp only [Tryz.f147, go_sem]; rfl)
noncomputable def fun147 : Fun := ⟨[0, 1, 2, 8, 3], [1, 2], [], 1, s147.1, [.cell 2 true 26, .tmp 3], 2⟩
theorem ok147 : FnM Tryz.prog 147 fun147 := SC.okM s147 rfl (fn := Tryz.f147) (by kernel_rfl) (by kernel_rfl)
noncomputable def s148 : SC (Tryz.f148.body.getD .skip) := SC.mk' (by simp only [Tryz.f148, go_sem]; rfl)
noncomputable def fun148 : Fun := ⟨[0, 1, 2, 6], [], [], 3, s148.1, [.tmp 6], 0⟩
theorem ok148 : FnM Tryz.prog 148 fun148 := SC.okM s148 rfl (fn := Tryz.f148) (by kernel_rfl) (by kernel_rfl)
noncomputable def s151 : SC (Tryz.f151.body.getD .skip) := SC.mk' (by simp only [Tryz.f151, go_sem]; rfl)
noncomputable def fun151 : Fun := ⟨[0, 4, 1, 3, 10, 2], [1], [], 1, s151.1, [.tmp 2], 0⟩
theorem ok151 : FnM Tryz.prog 151 fun151 := SC.okM s151 rfl (fn := Tryz.f151) (by kernel_rfl) (by kernel_rfl)
noncomputable def s165 : SC (Tryz.f165.body.getD .skip) := SC.mk' (by simp only [Tryz.f165, go_sem]; rfl)
noncomputable def fun165 : Fun := ⟨[0, 1, 4, 44, 6, 28, 43, 45, 2, 3], [1, 6], [], 1, s165.1, [.tmp 2, .tmp 3], 2⟩
theorem ok165 : FnM Tryz.prog 165 fun165 := SC.okM s165 rfl (fn := Tryz.f165) (by kernel_rfl) (by kernel_rfl)
noncomputable def s171 : SC (Tryz.f171.body.getD .skip) := SC.mk' (by simp only [Tryz.f171, go_sem]; rfl)
noncomputable def fun171 : Fun := ⟨[0, 1, 3, 7, 11, 2], [1], [], 1, s171.1, [.tmp 2], 7⟩
theorem ok171 : FnM Tryz.prog 171 fun171 := SC.okM s171 rfl (fn := Tryz.f171) (by kernel_rfl) (by kernel_rfl)
noncomputable def s173 : SC (Tryz.f173.body.getD .skip) := SC.mk' (by simp only [Tryz.f173, go_sem]; rfl)
noncomputable def fun173 : Fun := ⟨[0, 1, 2, 3, 4, 8, 5, 10, 21, 29, 12, 9], [4, 5, 8, 11], [], 4, s173.1, [.cell 8 true 8, .tmp 9], 9⟩
theorem ok173 : FnM Tryz.prog 173 fun173 := SC.okM s173 rfl (fn := Tryz.f173) (by kernel_rfl) (by kernel_rfl)
noncomputable def s175 : SC (Tryz.f175.body.getD .skip) := SC.mk' (by simp only [Tryz.f175, go_sem]; rfl)
noncomputable def fun175 : Fun := ⟨[0, 1, 2, 3, 4, 5, 10, 6, 12, 13, 24, 27, 35, 56, 11], [5, 6, 10], [], 5, s175.1, [.cell 10 true 8, .tmp 11], 9⟩
theorem ok175 : FnM Tryz.prog 175 fun175 := SC.okM s175 rfl (fn := Tryz.f175) (by kernel_rfl) (by kernel_rfl)
noncomputable def s193 : SC (Tryz.f193.body.getD .skip) := SC.mk' (by simp only [Tryz.f193, go_sem]; rfl)
noncomputable def fun193 : Fun := ⟨[0, 4, 2], [], [], 1, s193.1, [.tmp 2], 0⟩
theorem ok193 : FnM Tryz.prog 193 fun193 := SC.okM s193 rfl (fn := Tryz.f193) (by kernel_rfl) (by kernel_rfl)
noncomputable def s194 : SC (Tryz.f194.body.getD .skip) := SC.mk' (by simp only [Tryz.f194, go_sem]; rfl)
noncomputable def fun194 : Fun := ⟨[0, 3, 30, 32, 47, 57, 2], [], [], 1, s194.1, [.tmp 2], 9⟩
theorem ok194 : FnM Tryz.prog 194 fun194 := SC.okM s194 rfl (fn := Tryz.f194) (by kernel_rfl) (by kernel_rfl)
noncomputable def s195 : SC (Tryz.f195.body.getD .skip) := SC.mk' (by simp only [Tryz.f195, go_sem]; rfl)
noncomputable def fun195 : Fun := ⟨[0, 3, 8, 7, 4, 5, 22, 38, 6, 78, 92, 112, 145, 2], [5, 7], [], 1, s195.1, [.tmp 2], 9⟩
theorem ok195 : FnM Tryz.prog 195 fun195 := SC.okM s195 rfl (fn := Tryz.f195) (by kernel_rfl) (by kernel_rfl)
noncomputable def s202 : SC (Tryz.f202.body.getD .skip) := SC.mk' (by simp only [Tryz.f202, go_sem]; rfl)
noncomputable def fun202 : Fun := ⟨[0, 1, 2], [1], [], 1, s202.1, [.tmp 2], 0⟩
theorem ok202 : FnM Tryz.prog 202 fun202 := SC.okM s202 rfl (fn := Tryz.f202) (by kernel_rfl) (by kernel_rfl)
noncomputable def s212 : SC (Tryz.f212.body.getD .skip) := SC.mk' (by simp only [Tryz.f212, go_sem]; rfl)
noncomputable def fun212 : Fun := ⟨[0, 1, 2, 3, 7, 4, 6, 36], [3, 4, 6, 7], [], 3, s212.1, [.cell 6 true 63], 1⟩
theorem ok212 : FnM Tryz.prog 212 fun212 := SC.okM s212 rfl (fn := Tryz.f212) (by kernel_rfl) (by kernel_rfl)
noncomputable def s213 : SC (Tryz.f213.body.getD .skip) := SC.mk' (by simp only [Tryz.f213, go_sem]; rfl)
noncomputable def fun213 : Fun := ⟨[0, 1, 2, 3, 4, 8, 18, 35, 11, 45, 48, 9, 10], [4, 8], [], 4, s213.1, [.cell 8 true 11, .tmp 9, .tmp 10], 1⟩
theorem ok213 : FnM Tryz.prog 213 fun213 := SC.okM s213 rfl (fn := Tryz.f213) (by kernel_rfl) (by kernel_rfl)
noncomputable def s214 : SC (Tryz.f214.body.getD .skip) := SC.mk' (by simp only [Tryz.f214, go_sem]; rfl)
noncomputable def fun214 : Fun := ⟨[0, 2, 9, 3], [2], [], 1, s214.1, [.cell 2 true 2, .tmp 3], 0⟩
theorem ok214 : FnM Tryz.prog 214 fun214 := SC.okM s214 rfl (fn := Tryz.f214) (by kernel_rfl) (by kernel_rfl)
noncomputable def s217 : SC (Tryz.f217.body.getD .skip) := SC.mk' (by simp only [Tryz.f217, go_sem]; rfl)
noncomputable def fun217 : Fun := ⟨[0, 1, 4, 5, 6, 2, 7, 9, 25, 37, 52, 3], [1, 2, 4, 5, 6, 7, 9], [73, 78], 1, s217.1, [.cell 2 true 63, .tmp 3], 10⟩
theorem ok217 : FnM Tryz.prog 217 fun217 := SC.okM s217 rfl (fn := Tryz.f217) (by kernel_rfl) (by kernel_rfl)
noncomputable def s242 : SC (Tryz.f242.body.getD .skip) := SC.mk' (by simp only [Tryz.f242, go_sem]; rfl)
noncomputable def fun242 : Fun := ⟨[0, 1, 5, 2, 9, 12, 4], [2], [], 2, s242.1, [.tmp 4], 8⟩
theorem ok242 : FnM Tryz.prog 242 fun242 := SC.okM s242 rfl (fn := Tryz.f242) (by kernel_rfl) (by kernel_rfl)
noncomputable def s285 : SC (Tryz.f285.body.getD .skip) := SC.mk' (by simp only [Tryz.f285, go_sem]; rfl)
noncomputable def fun285 : Fun := ⟨[0, 1, 2, 4, 14, 5], [2, 4], [], 2, s285.1, [.cell 4 true 4, .tmp 5], 0⟩
theorem ok285 : FnM Tryz.prog 285 fun285 := SC.okM s285 rfl (fn := Tryz.f285) (by kernel_rfl) (by kernel_rfl)
noncomputable def s288 : SC (Tryz.f288.body.getD .skip) := SC.mk' (by simp only [Tryz.f288, go_sem]; rfl)
noncomputable def fun288 : Fun := ⟨[0, 1, 2, 3, 4, 7, 8, 30, 10, 18, 29, 31, 12, 35, 42, 9], [4, 7, 8], [], 4, s288.1, [.cell 8 true 11, .tmp 9], 3⟩
theorem ok288 : FnM Tryz.prog 288 fun288 := SC.okM s288 rfl (fn := Tryz.f288) (by kernel_rfl) (by kernel_rfl)
noncomputable def s295 : SC (Tryz.f295.body.getD .skip) := SC.mk' (by simp only [Tryz.f295, go_sem]; rfl)
noncomputable def fun295 : Fun := ⟨[0, 1, 2, 3, 4, 8, 7, 10, 11, 17, 23, 39, 9], [4, 7, 8], [], 4, s295.1, [.cell 8 true 11, .tmp 9], 7⟩
theorem ok295 : FnM Tryz.prog 295 fun295 := SC.okM s295 rfl (fn := Tryz.f295) (by kernel_rfl) (by kernel_rfl)
noncomputable def s299 : SC (Tryz.f299.body.getD .skip) := SC.mk' (by simp only [Tryz.f299, go_sem]; rfl)
noncomputable def fun299 : Fun := ⟨[0, 1, 3, 8, 4, 61, 5, 6, 59, 9, 40, 45, 56, 60, 62, 68, 81, 2], [1, 8], [], 1, s299.1, [.tmp 2], 2⟩
theorem ok299 : FnM Tryz.prog 299 fun299 := SC.okM s299 rfl (fn := Tryz.f299) (by kernel_rfl) (by kernel_rfl)
noncomputable def s309 : SC (Tryz.f309.body.getD .skip) := SC.mk' (by simp only [Tryz.f309, go_sem]; rfl)
noncomputable def fun309 : Fun := ⟨[0, 1, 5, 2, 4], [2, 4, 5], [], 2, s309.1, [.cell 4 true 10], 0⟩
theorem ok309 : FnM Tryz.prog 309 fun309 := SC.okM s309 rfl (fn := Tryz.f309) (by kernel_rfl) (by kernel_rfl)
noncomputable def s345 : SC (Tryz.f345.body.getD .skip) := SC.mk' (by simp only [Tryz.f345, go_sem]; rfl)
noncomputable def fun345 : Fun := ⟨[0, 1, 2, 3, 4, 8, 12, 13, 11, 14, 15, 20, 35, 45, 9, 10], [4, 8, 14, 15], [], 4, s345.1, [.cell 8 true 8, .tmp 9, .tmp 10], 8⟩
theorem ok345 : FnM Tryz.prog 345 fun345 := SC.okM s345 rfl (fn := Tryz.f345) (by kernel_rfl) (by kernel_rfl)
noncomputable def s350 : SC (Tryz.f350.body.getD .skip) := SC.mk' (by simp only [Tryz.f350, go_sem]; rfl)
noncomputable def fun350 : Fun := ⟨[0, 1, 2, 4, 10, 6, 7, 19, 5], [2, 4], [], 2, s350.1, [.cell 4 true 8, .tmp 5], 6⟩
theorem ok350 : FnM Tryz.prog 350 fun350 := SC.okM s350 rfl (fn := Tryz.f350) (by kernel_rfl) (by kernel_rfl)
noncomputable def s356 : SC (Tryz.f356.body.getD .skip) := SC.mk' (by simp only [Tryz.f356, go_sem]; rfl)
noncomputable def fun356 : Fun := ⟨[0, 4, 2], [], [], 1, s356.1, [.tmp 2], 0⟩
theorem ok356 : FnM Tryz.prog 356 fun356 := SC.okM s356 rfl (fn := Tryz.f356) (by kernel_rfl) (by kernel_rfl)
noncomputable def s360 : SC (Tryz.f360.body.getD .skip) := SC.mk' (by simp only [Tryz.f360, go_sem]; rfl)
noncomputable def fun360 : Fun := ⟨[0, 2], [], [], 1, s360.1, [.tmp 2], 0⟩
theorem ok360 : FnM Tryz.prog 360 fun360 := SC.okM s360 rfl (fn := Tryz.f360) (by kernel_rfl) (by kernel_rfl)
noncomputable def s396 : SC (Tryz.f396.body.getD .skip) := SC.mk' (by simp only [Tryz.f396, go_sem]; rfl)
noncomputable def fun396 : Fun := ⟨[0, 2], [], [], 1, s396.1, [.tmp 2], 1⟩
theorem ok396 : FnM Tryz.prog 396 fun396 := SC.okM s396 rfl (fn := Tryz.f396) (by kernel_rfl) (by kernel_rfl)
noncomputable def s427 : SC (Tryz.f427.body.getD .skip) := SC.mk' (by simp only [Tryz.f427, go_sem]; rfl)
noncomputable def fun427 : Fun := ⟨[0, 1, 2, 4, 5, 8, 9, 7, 13, 23, 6], [2, 4, 5], [31, 32], 2, s427.1, [.cell 4 true 3, .cell 5 true 7, .tmp 6], 3⟩
theorem ok427 : FnM Tryz.prog 427 fun427 := SC.okM s427 rfl (fn := Tryz.f427) (by kernel_rfl) (by kernel_rfl)
noncomputable def s465 : SC (Tryz.f465.body.getD .skip) := SC.mk' (by simp only [Tryz.f465, go_sem]; rfl)
noncomputable def fun465 : Fun := ⟨[0, 1, 4], [], [], 2, s465.1, [.tmp 4], 3⟩
theorem ok465 : FnM Tryz.prog 465 fun465 := SC.okM s465 rfl (fn := Tryz.f465) (by kernel_rfl) (by kernel_rfl)
noncomputable def s466 : SC (Tryz.f466.body.getD .skip) := SC.mk' (by simp only [Tryz.f466, go_sem]; rfl)
noncomputable def fun466 : Fun := ⟨[0, 1, 2], [1], [], 1, s466.1, [.tmp 2], 1⟩
theorem ok466 : FnM Tryz.prog 466 fun466 := SC.okM s466 rfl (fn := Tryz.f466) (by kernel_rfl) (by kernel_rfl)
noncomputable def s469 : SC (Tryz.f469.body.getD .skip) := SC.mk' (by simp only [Tryz.f469, go_sem]; rfl)
noncomputable def fun469 : Fun := ⟨[0, 1, 8, 5, 7, 9, 16, 4], [], [], 2, s469.1, [.tmp 4], 8⟩
theorem ok469 : FnM Tryz.prog 469 fun469 := SC.okM s469 rfl (fn := Tryz.f469) (by kernel_rfl) (by kernel_rfl)
noncomputable def s471 : SC (Tryz.f471.body.getD .skip) := SC.mk' (by simp only [Tryz.f471, go_sem]; rfl)
noncomputable def fun471 : Fun := ⟨[0, 1, 6, 3, 5, 2, 12, 24, 4], [2, 3], [], 2, s471.1, [.tmp 4], 0⟩
theorem ok471 : FnM Tryz.prog 471 fun471 := SC.okM s471 rfl (fn := Tryz.f471) (by kernel_rfl) (by kernel_rfl)
noncomputable def s474 : SC (Tryz.f474.body.getD .skip) := SC.mk' (by simp only [Tryz.f474, go_sem]; rfl)
noncomputable def fun474 : Fun := ⟨[0, 1, 2, 4, 23, 6, 8, 3, 10, 25, 30, 37, 42, 47, 7], [3, 4, 6], [], 3, s474.1, [.cell 6 true 4, .tmp 7], 1⟩
theorem ok474 : FnM Tryz.prog 474 fun474 := SC.okM s474 rfl (fn := Tryz.f474) (by kernel_rfl) (by kernel_rfl)
noncomputable def s477 : SC (Tryz.f477.body.getD .skip) := SC.mk' (by simp only [Tryz.f477, go_sem]; rfl)
noncomputable def fun477 : Fun := ⟨[0, 1, 2, 4, 3, 9, 12, 6, 7, 10, 11, 22, 45, 63, 76, 8], [3, 4, 6, 7, 10, 11], [], 3, s477.1, [.cell 6 true 11, .cell 7 true 26, .tmp 8], 10⟩
theorem ok477 : FnM Tryz.prog 477 fun477 := SC.okM s477 rfl (fn := Tryz.f477) (by kernel_rfl) (by kernel_rfl)
noncomputable def s478 : SC (Tryz.f478.body.getD .skip) := SC.mk' (by simp only [Tryz.f478, go_sem]; rfl)
noncomputable def fun478 : Fun := ⟨[0, 1, 2, 3, 5, 6, 10, 15, 22, 28, 4], [2, 3], [], 2, s478.1, [.tmp 4], 3⟩
theorem ok478 : FnM Tryz.prog 478 fun478 := SC.okM s478 rfl (fn := Tryz.f478) (by kernel_rfl) (by kernel_rfl)
noncomputable def s479 : SC (Tryz.f479.body.getD .skip) := SC.mk' (by simp only [Tryz.f479, go_sem]; rfl)
noncomputable def fun479 : Fun := ⟨[0, 1, 2, 7, 8, 3, 6, 20], [3, 6, 7], [], 3, s479.1, [.cell 6 true 3], 0⟩
theorem ok479 : FnM Tryz.prog 479 fun479 := SC.okM s479 rfl (fn := Tryz.f479) (by kernel_rfl) (by kernel_rfl)
noncomputable def s480 : SC (Tryz.f480.body.getD .skip) := SC.mk' (by simp only [Tryz.f480, go_sem]; rfl)
noncomputable def fun480 : Fun := ⟨[0, 1, 2, 3, 6], [3], [], 3, s480.1, [.tmp 6], 1⟩
theorem ok480 : FnM Tryz.prog 480 fun480 := SC.okM s480 rfl (fn := Tryz.f480) (by kernel_rfl) (by kernel_rfl)
noncomputable def s491 : SC (Tryz.f491.body.getD .skip) := SC.mk' (by simp only [Tryz.f491, go_sem]; rfl)
noncomputable def fun491 : Fun := ⟨[0, 1, 2, 3], [2], [], 2, s491.1, [.tmp 3], 0⟩
theorem ok491 : FnM Tryz.prog 491 fun491 := SC.okM s491 rfl (fn := Tryz.f491) (by kernel_rfl) (by kernel_rfl)
noncomputable def s530 : SC (Tryz.f530.body.getD .skip) := SC.mk' (by simp only [Tryz.f530, go_sem]; rfl)
noncomputable def fun530 : Fun := ⟨[0, 1, 2, 6, 3], [1, 2], [], 1, s530.1, [.cell 2 true 5, .tmp 3], 0⟩
theorem ok530 : FnM Tryz.prog 530 fun530 := SC.okM s530 rfl (fn := Tryz.f530) (by kernel_rfl) (by kernel_rfl)
noncomputable def s538 : SC (Tryz.f538.body.getD .skip) := SC.mk' (by simp only [Tryz.f538, go_sem]; rfl)
noncomputable def fun538 : Fun := ⟨[0, 2], [], [], 1, s538.1, [.tmp 2], 0⟩
theorem ok538 : FnM Tryz.prog 538 fun538 := SC.okM s538 rfl (fn := Tryz.f538) (by kernel_rfl) (by kernel_rfl)
noncomputable def s539 : SC (Tryz.f539.body.getD .skip) := SC.mk' (by simp only [Tryz.f539, go_sem]; rfl)
noncomputable def fun539 : Fun := ⟨[0, 1, 2, 9, 4], [2], [], 2, s539.1, [.tmp 4], 0⟩
theorem ok539 : FnM Tryz.prog 539 fun539 := SC.okM s539 rfl (fn := Tryz.f539) (by kernel_rfl) (by kernel_rfl)
end Go.M
