/-
  The codes of functions, as the machine takes them.
  No condition: definitions and lemmas.
-/
import Derived.Test.YthcgieflnpkgnaaGreatQtyA
set_option linter.all false
set_option maxRecDepth 100000
set_option maxHeartbeats 4000000
namespace Go.M
open Go Go.Proofs
open Go.Eng (SOp SOper SCode sizeP aggP zerosOf bytesP zeroVal stripCode stripOps stripOper strip stripParts kindsOf)

noncomputable def s11 : SC (Tryz.f11.body.getD .skip) := SC.mk' (by simp only [Tryz.f11, go_sem]; rfl)
noncomputable def fun11 : Fun := ⟨[0, 5, 11, 3, 2], [], [], 1, s11.1, [.tmp 2], 1⟩
theorem ok11 : FnM Tryz.prog 11 fun11 := SC.okM s11 rfl (fn := Tryz.f11) (by kernel_rfl) (by kernel_rfl)
noncomputable def s30 : SC (Tryz.f30.body.getD .skip) := SC.mk' (by simp only [Tryz.f30, go_sem]; rfl)
noncomputable def fun30 : Fun := ⟨[0, 2, 9, 3], [2], [], 1, s30.1, [.cell 2 true 2, .tmp 3], 0⟩
theorem ok30 : FnM Tryz.prog 30 fun30 := SC.okM s30 rfl (fn := Tryz.f30) (by kernel_rfl) (by kernel_rfl)
noncomputable def s31 : SC (Tryz.f31.body.getD .skip) := SC.mk' (by simp only [Tryz.f31, go_sem]; rfl)
noncomputable def fun31 : Fun := ⟨[0, 1, 2, 3, 8, 6, 5, 11, 12, 22, 30, 37, 9], [5, 6, 8, 10], [], 4, s31.1, [.cell 8 true 63, .tmp 9], 3⟩
theorem ok31 : FnM Tryz.prog 31 fun31 := SC.okM s31 rfl (fn := Tryz.f31) (by kernel_rfl) (by kernel_rfl)
noncomputable def s33 : SC (Tryz.f33.body.getD .skip) := SC.mk' (by simp only [Tryz.f33, go_sem]; rfl)
noncomputable def fun33 : Fun := ⟨[0, 1, 5, 2], [1], [], 1, s33.1, [.tmp 2], 3⟩
theorem ok33 : FnM Tryz.prog 33 fun33 := SC.okM s33 rfl (fn := Tryz.f33) (by kernel_rfl) (by kernel_rfl)
noncomputable def s54 : SC (Tryz.f54.body.getD .skip) := SC.mk' (by simp only [Tryz.f54, go_sem]; rfl)
noncomputable def fun54 : Fun := ⟨[0, 2, 9, 3], [2], [], 1, s54.1, [.cell 2 true 3, .tmp 3], 0⟩
theorem ok54 : FnM Tryz.prog 54 fun54 := SC.okM s54 rfl (fn := Tryz.f54) (by kernel_rfl) (by kernel_rfl)
noncomputable def s55 : SC (Tryz.f55.body.getD .skip) := SC.mk' (by simp only [Tryz.f55, go_sem]; rfl)
noncomputable def fun55 : Fun := ⟨[0, 1, 4], [], [], 2, s55.1, [.tmp 4], 0⟩
theorem ok55 : FnM Tryz.prog 55 fun55 := SC.okM s55 rfl (fn := Tryz.f55) (by kernel_rfl) (by kernel_rfl)
noncomputable def s64 : SC (Tryz.f64.body.getD .skip) := SC.mk' (by simp only [Tryz.f64, go_sem]; rfl)
noncomputable def fun64 : Fun := ⟨[0, 1, 4, 3, 8, 2], [1], [], 1, s64.1, [.tmp 2], 0⟩
theorem ok64 : FnM Tryz.prog 64 fun64 := SC.okM s64 rfl (fn := Tryz.f64) (by kernel_rfl) (by kernel_rfl)
noncomputable def s66 : SC (Tryz.f66.body.getD .skip) := SC.mk' (by simp only [Tryz.f66, go_sem]; rfl)
noncomputable def fun66 : Fun := ⟨[0, 4, 1, 3, 9, 18, 2], [1], [], 1, s66.1, [.tmp 2], 0⟩
theorem ok66 : FnM Tryz.prog 66 fun66 := SC.okM s66 rfl (fn := Tryz.f66) (by kernel_rfl) (by kernel_rfl)
noncomputable def s68 : SC (Tryz.f68.body.getD .skip) := SC.mk' (by simp only [Tryz.f68, go_sem]; rfl)
noncomputable def fun68 : Fun := ⟨[0, 1, 2, 8, 6, 11, 4, 7, 10, 9, 30, 61, 5], [2, 4, 6, 7, 8], [66], 2, s68.1, [.cell 4 true 23, .tmp 5], 16⟩
theorem ok68 : FnM Tryz.prog 68 fun68 := SC.okM s68 rfl (fn := Tryz.f68) (by kernel_rfl) (by kernel_rfl)
noncomputable def s80 : SC (Tryz.f80.body.getD .skip) := SC.mk' (by simp only [Tryz.f80, go_sem]; rfl)
noncomputable def fun80 : Fun := ⟨[0, 1, 2, 4, 3, 11, 6, 7, 32, 33, 45, 12, 10, 26, 40, 46, 56, 68, 8, 9], [3, 4, 6, 7, 12], [], 3, s80.1, [.cell 6 true 11, .cell 7 true 63, .tmp 8, .tmp 9], 15⟩
theorem ok80 : FnM Tryz.prog 80 fun80 := SC.okM s80 rfl (fn := Tryz.f80) (by kernel_rfl) (by kernel_rfl)
noncomputable def s93 : SC (Tryz.f93.body.getD .skip) := SC.mk' (by simp only [Tryz.f93, go_sem]; rfl)
noncomputable def fun93 : Fun := ⟨[0, 4, 1, 10, 5, 2], [1], [], 1, s93.1, [.tmp 2], 0⟩
theorem ok93 : FnM Tryz.prog 93 fun93 := SC.okM s93 rfl (fn := Tryz.f93) (by kernel_rfl) (by kernel_rfl)
noncomputable def s99 : SC (Tryz.f99.body.getD .skip) := SC.mk' (by simp only [Tryz.f99, go_sem]; rfl)
noncomputable def fun99 : Fun := ⟨[0, 1, 2, 3, 7, 4, 6, 36], [3, 4, 6, 7], [], 3, s99.1, [.cell 6 true 63], 1⟩
theorem ok99 : FnM Tryz.prog 99 fun99 := SC.okM s99 rfl (fn := Tryz.f99) (by kernel_rfl) (by kernel_rfl)
noncomputable def s103 : SC (Tryz.f103.body.getD .skip) := SC.mk' (by simp only [Tryz.f103, go_sem]; rfl)
noncomputable def fun103 : Fun := ⟨[0, 1, 4, 6, 7, 14, 22, 5], [4, 6], [], 2, s103.1, [.cell 4 true 26, .tmp 5], 2⟩
theorem ok103 : FnM Tryz.prog 103 fun103 := SC.okM s103 rfl (fn := Tryz.f103) (by kernel_rfl) (by kernel_rfl)
noncomputable def s138 : SC (Tryz.f138.body.getD .skip) := SC.mk' (by simp only [Tryz.f138, go_sem]; rfl)
noncomputable def fun138 : Fun := ⟨[0, 17, 2, 5, 15, 4, 13, 16, 18, 40, 3], [2], [], 1, s138.1, [.cell 2 true 5, .tmp 3], 1⟩
theorem ok138 : FnM Tryz.prog 138 fun138 := SC.okM s138 rfl (fn := Tryz.f138) (by kernel_rfl) (by kernel_rfl)
noncomputable def s139 : SC (Tryz.f139.body.getD .skip) := SC.mk' (by simp only [Tryz.f139, go_sem]; rfl)
noncomputable def fun139 : Fun := ⟨[0], [0], [], 0, s139.1, [.cell 0 true 4], 0⟩
theorem ok139 : FnM Tryz.prog 139 fun139 := SC.okM s139 rfl (fn := Tryz.f139) (by kernel_rfl) (by kernel_rfl)
noncomputable def s146 : SC (Tryz.f146.body.getD .skip) := SC.mk' (by simp only [Tryz.f146, go_sem]; rfl)
noncomputable def fun146 : Fun := ⟨[0, 1, 4], [], [], 2, s146.1, [.tmp 4], 1⟩
theorem ok146 : FnM Tryz.prog 146 fun146 := SC.okM s146 rfl (fn := Tryz.f146) (by kernel_rfl) (by kernel_rfl)
noncomputable def s147 : SC (Tryz.f147.body.getD .skip) := SC.mk' (by simp only [Tryz.f147, go_sem]; rfl)
noncomputable def fun147 : Fun := ⟨[0, 1, 2, 8, 3], [1, 2], [], 1, s147.1, [.cell 2 true 26, .tmp 3], 2⟩
theorem ok147 : FnM Tryz.prog 147 fun147 := SC.okM s147 rfl (fn := Tryz.f147) (by kernel_rfl) (by kernel_rfl)
noncomputable def s151 : SC (Tryz.f151.body.getD .skip) := SC.mk' (by simp only [Tryz.f151, go_sem]; rfl)
noncomputable def fun151 : Fun := ⟨[0, 4, 1, 3, 10, 2], [1], [], 1, s151.1, [.tmp 2], 0⟩
theorem ok151 : FnM Tryz.prog 151 fun151 := SC.okM s151 rfl (fn := Tryz.f151) (by kernel_rfl) (by kernel_rfl)
noncomputable def s195 : SC (Tryz.f195.body.getD .skip) := SC.mk' (by simp only [Tryz.f195, go_sem]; rfl)
noncomputable def fun195 : Fun := ⟨[0, 3, 8, 7, 4, 5, 22, 38, 6, 78, 92, 112, 145, 2], [5, 7], [], 1, s195.1, [.tmp 2], 9⟩
theorem ok195 : FnM Tryz.prog 195 fun195 := SC.okM s195 rfl (fn := Tryz.f195) (by kernel_rfl) (by kernel_rfl)
noncomputable def s200 : SC (Tryz.f200.body.getD .skip) := SC.mk' (by simp only [Tryz.f200, go_sem]; rfl)
noncomputable def fun200 : Fun := ⟨[0, 3, 6, 4, 5, 44, 71, 106, 134, 156, 2], [4, 5], [], 1, s200.1, [.tmp 2], 11⟩
theorem ok200 : FnM Tryz.prog 200 fun200 := SC.okM s200 rfl (fn := Tryz.f200) (by kernel_rfl) (by kernel_rfl)
noncomputable def s221 : SC (Tryz.f221.body.getD .skip) := SC.mk' (by simp only [Tryz.f221, go_sem]; rfl)
noncomputable def fun221 : Fun := ⟨[0, 1, 2, 3, 6], [3, 6], [], 3, s221.1, [.cell 6 true 63], 2⟩
theorem ok221 : FnM Tryz.prog 221 fun221 := SC.okM s221 rfl (fn := Tryz.f221) (by kernel_rfl) (by kernel_rfl)
noncomputable def s240 : SC (Tryz.f240.body.getD .skip) := SC.mk' (by simp only [Tryz.f240, go_sem]; rfl)
noncomputable def fun240 : Fun := ⟨[0, 1, 2, 6], [], [], 3, s240.1, [.tmp 6], 0⟩
theorem ok240 : FnM Tryz.prog 240 fun240 := SC.okM s240 rfl (fn := Tryz.f240) (by kernel_rfl) (by kernel_rfl)
noncomputable def s243 : SC (Tryz.f243.body.getD .skip) := SC.mk' (by simp only [Tryz.f243, go_sem]; rfl)
noncomputable def fun243 : Fun := ⟨[0, 2], [], [], 1, s243.1, [.tmp 2], 1⟩
theorem ok243 : FnM Tryz.prog 243 fun243 := SC.okM s243 rfl (fn := Tryz.f243) (by kernel_rfl) (by kernel_rfl)
noncomputable def s251 : SC (Tryz.f251.body.getD .skip) := SC.mk' (by simp only [Tryz.f251, go_sem]; rfl)
noncomputable def fun251 : Fun := ⟨[0, 2], [], [], 1, s251.1, [.tmp 2], 1⟩
theorem ok251 : FnM Tryz.prog 251 fun251 := SC.okM s251 rfl (fn := Tryz.f251) (by kernel_rfl) (by kernel_rfl)
noncomputable def s292 : SC (Tryz.f292.body.getD .skip) := SC.mk' (by simp only [Tryz.f292, go_sem]; rfl)
noncomputable def fun292 : Fun := ⟨[0, 2], [], [], 1, s292.1, [.tmp 2], 0⟩
theorem ok292 : FnM Tryz.prog 292 fun292 := SC.okM s292 rfl (fn := Tryz.f292) (by kernel_rfl) (by kernel_rfl)
noncomputable def s302 : SC (Tryz.f302.body.getD .skip) := SC.mk' (by simp only [Tryz.f302, go_sem]; rfl)
noncomputable def fun302 : Fun := ⟨[0, 1, 2, 6], [], [], 3, s302.1, [.tmp 6], 0⟩
theorem ok302 : FnM Tryz.prog 302 fun302 := SC.okM s302 rfl (fn := Tryz.f302) (by kernel_rfl) (by kernel_rfl)
noncomputable def s315 : SC (Tryz.f315.body.getD .skip) := SC.mk' (by simp only [Tryz.f315, go_sem]; rfl)
noncomputable def fun315 : Fun := ⟨[0, 1, 2, 4, 3, 6, 7, 11, 17, 20, 34, 43, 5], [2, 3, 4], [], 2, s315.1, [.cell 4 true 8, .tmp 5], 9⟩
theorem ok315 : FnM Tryz.prog 315 fun315 := SC.okM s315 rfl (fn := Tryz.f315) (by kernel_rfl) (by kernel_rfl)
noncomputable def s334 : SC (Tryz.f334.body.getD .skip) := SC.mk' (by simp only [Tryz.f334, go_sem]; rfl)
noncomputable def fun334 : Fun := ⟨[0, 1, 3, 2, 4, 6, 7, 12, 26, 32, 52, 56, 69, 73, 80, 9, 5], [2, 3, 4, 8], [], 2, s334.1, [.cell 4 true 26, .tmp 5], 3⟩
theorem ok334 : FnM Tryz.prog 334 fun334 := SC.okM s334 rfl (fn := Tryz.f334) (by kernel_rfl) (by kernel_rfl)
noncomputable def s355 : SC (Tryz.f355.body.getD .skip) := SC.mk' (by simp only [Tryz.f355, go_sem]; rfl)
noncomputable def fun355 : Fun := ⟨[0, 1, 2, 4], [2], [], 2, s355.1, [.tmp 4], 0⟩
theorem ok355 : FnM Tryz.prog 355 fun355 := SC.okM s355 rfl (fn := Tryz.f355) (by kernel_rfl) (by kernel_rfl)
noncomputable def s366 : SC (Tryz.f366.body.getD .skip) := SC.mk' (by simp only [Tryz.f366, go_sem]; rfl)
noncomputable def fun366 : Fun := ⟨[0, 1, 2, 4, 9, 6, 8, 10, 23, 32, 46, 7], [4, 6, 8, 10], [], 3, s366.1, [.cell 6 true 8, .tmp 7], 11⟩
theorem ok366 : FnM Tryz.prog 366 fun366 := SC.okM s366 rfl (fn := Tryz.f366) (by kernel_rfl) (by kernel_rfl)
noncomputable def s416 : SC (Tryz.f416.body.getD .skip) := SC.mk' (by simp only [Tryz.f416, go_sem]; rfl)
noncomputable def fun416 : Fun := ⟨[0, 1, 2, 4], [2], [], 2, s416.1, [.tmp 4], 0⟩
theorem ok416 : FnM Tryz.prog 416 fun416 := SC.okM s416 rfl (fn := Tryz.f416) (by kernel_rfl) (by kernel_rfl)
noncomputable def s423 : SC (Tryz.f423.body.getD .skip) := SC.mk' (by simp only [Tryz.f423, go_sem]; rfl)
noncomputable def fun423 : Fun := ⟨[0, 1, 2, 4], [2, 4], [], 2, s423.1, [.cell 4 true 26], 0⟩
theorem ok423 : FnM Tryz.prog 423 fun423 := SC.okM s423 rfl (fn := Tryz.f423) (by kernel_rfl) (by kernel_rfl)
noncomputable def s433 : SC (Tryz.f433.body.getD .skip) := SC.mk' (by simp only [Tryz.f433, go_sem]; rfl)
noncomputable def fun433 : Fun := ⟨[0, 1, 2, 3, 4], [2], [], 2, s433.1, [.tmp 4], 9⟩
theorem ok433 : FnM Tryz.prog 433 fun433 := SC.okM s433 rfl (fn := Tryz.f433) (by kernel_rfl) (by kernel_rfl)
noncomputable def s436 : SC (Tryz.f436.body.getD .skip) := SC.mk' (by simp only [Tryz.f436, go_sem]; rfl)
noncomputable def fun436 : Fun := ⟨[0, 1, 6, 5, 11, 12, 13, 16, 19, 4], [], [], 2, s436.1, [.tmp 4], 1⟩
theorem ok436 : FnM Tryz.prog 436 fun436 := SC.okM s436 rfl (fn := Tryz.f436) (by kernel_rfl) (by kernel_rfl)
noncomputable def s441 : SC (Tryz.f441.body.getD .skip) := SC.mk' (by simp only [Tryz.f441, go_sem]; rfl)
noncomputable def fun441 : Fun := ⟨[0, 1, 18, 8, 5, 6, 16, 11, 17, 19, 25, 4], [8], [], 2, s441.1, [.tmp 4], 9⟩
theorem ok441 : FnM Tryz.prog 441 fun441 := SC.okM s441 rfl (fn := Tryz.f441) (by kernel_rfl) (by kernel_rfl)
noncomputable def s444 : SC (Tryz.f444.body.getD .skip) := SC.mk' (by simp only [Tryz.f444, go_sem]; rfl)
noncomputable def fun444 : Fun := ⟨[0, 1, 2, 4, 8, 11, 16, 3], [1, 2], [], 1, s444.1, [.cell 2 true 7, .tmp 3], 2⟩
theorem ok444 : FnM Tryz.prog 444 fun444 := SC.okM s444 rfl (fn := Tryz.f444) (by kernel_rfl) (by kernel_rfl)
noncomputable def s460 : SC (Tryz.f460.body.getD .skip) := SC.mk' (by simp only [Tryz.f460, go_sem]; rfl)
noncomputable def fun460 : Fun := ⟨[0, 1, 2, 3, 6, 9, 10, 23, 26, 7, 8], [3, 6], [], 3, s460.1, [.cell 6 true 11, .tmp 7, .tmp 8], 2⟩
theorem ok460 : FnM Tryz.prog 460 fun460 := SC.okM s460 rfl (fn := Tryz.f460) (by kernel_rfl) (by kernel_rfl)
noncomputable def s473 : SC (Tryz.f473.body.getD .skip) := SC.mk' (by simp only [Tryz.f473, go_sem]; rfl)
noncomputable def fun473 : Fun := ⟨[0, 1, 3, 2, 7, 9, 4, 5, 8, 21, 48, 6], [2, 3, 4, 5, 9], [], 2, s473.1, [.cell 4 true 11, .cell 5 true 26, .tmp 6], 2⟩
theorem ok473 : FnM Tryz.prog 473 fun473 := SC.okM s473 rfl (fn := Tryz.f473) (by kernel_rfl) (by kernel_rfl)
noncomputable def s474 : SC (Tryz.f474.body.getD .skip) := SC.mk' (by simp only [Tryz.f474, go_sem]; rfl)
noncomputable def fun474 : Fun := ⟨[0, 1, 2, 4, 23, 6, 8, 3, 10, 25, 30, 37, 42, 47, 7], [3, 4, 6], [], 3, s474.1, [.cell 6 true 4, .tmp 7], 1⟩
theorem ok474 : FnM Tryz.prog 474 fun474 := SC.okM s474 rfl (fn := Tryz.f474) (by kernel_rfl) (by kernel_rfl)
noncomputable def s499 : SC (Tryz.f499.body.getD .skip) := SC.mk' (by simp only [Tryz.f499, go_sem]; rfl)
noncomputable def fun499 : Fun := ⟨[0, 1, 2, 7, 8, 9, 16, 22, 31, 68, 6], [], [], 3, s499.1, [.tmp 6], 3⟩
theorem ok499 : FnM Tryz.prog 499 fun499 := SC.okM s499 rfl (fn := Tryz.f499) (by kernel_rfl) (by kernel_rfl)
noncomputable def s515 : SC (Tryz.f515.body.getD .skip) := SC.mk' (by simp only [Tryz.f515, go_sem]; rfl)
noncomputable def fun515 : Fun := ⟨[0, 1, 8, 5, 3, 7, 9, 16, 4], [3], [], 2, s515.1, [.tmp 4], 0⟩
theorem ok515 : FnM Tryz.prog 515 fun515 := SC.okM s515 rfl (fn := Tryz.f515) (by kernel_rfl) (by kernel_rfl)
noncomputable def s519 : SC (Tryz.f519.body.getD .skip) := SC.mk' (by simp only [Tryz.f519, go_sem]; rfl)
noncomputable def fun519 : Fun := ⟨[0, 1, 2, 3, 4, 7, 8, 10, 16, 40, 9], [4, 7, 8], [], 4, s519.1, [.cell 8 true 11, .tmp 9], 2⟩
theorem ok519 : FnM Tryz.prog 519 fun519 := SC.okM s519 rfl (fn := Tryz.f519) (by kernel_rfl) (by kernel_rfl)
noncomputable def s530 : SC (Tryz.f530.body.getD .skip) := SC.mk' (by simp only [Tryz.f530, go_sem]; rfl)
noncomputable def fun530 : Fun := ⟨[0, 1, 2, 6, 3], [1, 2], [], 1, s530.1, [.cell 2 true 5, .tmp 3], 0⟩
theorem ok530 : FnM Tryz.prog 530 fun530 := SC.okM s530 rfl (fn := Tryz.f530) (by kernel_rfl) (by kernel_rfl)
end Go.M
