/-
  The codes of functions, as the machine takes them.
  No condition: definitions and lemmas.
-/
import Derived.Test.YthcgieflnpkgnaaGreatQtyA
set_option linter.all false
set_option maxRecDepth 100000
set_option maxHeartbeats 4000000
namespace Go.M
open Go Go.Proofs
open Go.Eng (SOp SOper SCode sizeP aggP zerosOf bytesP zeroVal stripCode stripOps stripOper strip stripParts kindsOf)

noncomputable def s5 : SC (Tryz.f5.body.getD .skip) := SC.mk' (by simp only [Tryz.f5, go_sem]; rfl)
noncomputable def fun5 : Fun := ⟨[0, 1, 8, 6, 5, 7, 9, 10, 57, 60, 4], [5, 6, 7], [], 2, s5.1, [.tmp 4], 20⟩
theorem ok5 : FnM Tryz.prog 5 fun5 := SC.okM s5 rfl (fn := Tryz.f5) (by kernel_rfl) (by kernel_rfl)
noncomputable def s9 : SC (Tryz.f9.body.getD .skip) := SC.mk' (by simp only [Tryz.f9, go_sem]; rfl)
noncomputable def fun9 : Fun := ⟨[0, 1, 2], [1], [], 1, s9.1, [.tmp 2], 4⟩
theorem ok9 : FnM Tryz.prog 9 fun9 := SC.okM s9 rfl (fn := Tryz.f9) (by kernel_rfl) (by kernel_rfl)
noncomputable def s37 : SC (Tryz.f37.body.getD .skip) := SC.mk' (by simp only [Tryz.f37, go_sem]; rfl)
noncomputable def fun37 : Fun := ⟨[0, 1, 2, 4, 5, 12, 3], [1, 2, 4], [], 1, s37.1, [.cell 2 true 23, .tmp 3], 3⟩
theorem ok37 : FnM Tryz.prog 37 fun37 := SC.okM s37 rfl (fn := Tryz.f37) (by kernel_rfl) (by kernel_rfl)
noncomputable def s44 : SC (Tryz.f44.body.getD .skip) := SC.mk' (by simp only [Tryz.f44, go_sem]; rfl)
noncomputable def fun44 : Fun := ⟨[0, 1, 2, 4, 3, 6, 7, 26, 10, 11, 13, 17, 12, 27, 35, 46, 64, 8, 9], [3, 4, 6, 7], [], 3, s44.1, [.cell 6 true 11, .cell 7 true 63, .tmp 8, .tmp 9], 16⟩
theorem ok44 : FnM Tryz.prog 44 fun44 := SC.okM s44 rfl (fn := Tryz.f44) (by kernel_rfl) (by kernel_rfl)
noncomputable def s67 : SC (Tryz.f67.body.getD .skip) := SC.mk' (by simp only [Tryz.f67, go_sem]; rfl)
noncomputable def fun67 : Fun := ⟨[0, 4, 1, 6, 7, 8, 3, 5, 19, 2], [1, 8], [], 1, s67.1, [.tmp 2], 1⟩
theorem ok67 : FnM Tryz.prog 67 fun67 := SC.okM s67 rfl (fn := Tryz.f67) (by kernel_rfl) (by kernel_rfl)
noncomputable def s98 : SC (Tryz.f98.body.getD .skip) := SC.mk' (by simp only [Tryz.f98, go_sem]; rfl)
noncomputable def fun98 : Fun := ⟨[0, 1, 2, 6, 7, 11, 15, 4, 5], [2], [], 2, s98.1, [.tmp 4, .tmp 5], 0⟩
theorem ok98 : FnM Tryz.prog 98 fun98 := SC.okM s98 rfl (fn := Tryz.f98) (by kernel_rfl) (by kernel_rfl)
noncomputable def s101 : SC (Tryz.f101.body.getD .skip) := SC.mk' (by simp only [Tryz.f101, go_sem]; rfl)
noncomputable def fun101 : Fun := ⟨[0, 2, 9, 3], [2], [], 1, s101.1, [.cell 2 true 2, .tmp 3], 0⟩
theorem ok101 : FnM Tryz.prog 101 fun101 := SC.okM s101 rfl (fn := Tryz.f101) (by kernel_rfl) (by kernel_rfl)
noncomputable def s104 : SC (Tryz.f104.body.getD .skip) := SC.mk' (by simp only [Tryz.f104, go_sem]; rfl)
noncomputable def fun104 : Fun := ⟨[0, 1, 2, 3, 11, 8, 9, 12, 4, 5, 22, 10], [4, 5, 8, 9], [], 4, s104.1, [.cell 8 true 11, .cell 9 true 26, .tmp 10], 13⟩
theorem ok104 : FnM Tryz.prog 104 fun104 := SC.okM s104 rfl (fn := Tryz.f104) (by kernel_rfl) (by kernel_rfl)
noncomputable def s108 : SC (Tryz.f108.body.getD .skip) := SC.mk' (by simp only [Tryz.f108, go_sem]; rfl)
noncomputable def fun108 : Fun := ⟨[0, 1, 38, 42, 2], [1], [], 1, s108.1, [.tmp 2], 1⟩
theorem ok108 : FnM Tryz.prog 108 fun108 := SC.okM s108 rfl (fn := Tryz.f108) (by kernel_rfl) (by kernel_rfl)
noncomputable def s116 : SC (Tryz.f116.body.getD .skip) := SC.mk' (by simp only [Tryz.f116, go_sem]; rfl)
noncomputable def fun116 : Fun := ⟨[0, 1, 3, 39, 37, 5, 9, 26, 31, 38, 40, 4, 50, 54, 2], [1, 5], [], 1, s116.1, [.tmp 2], 4⟩
theorem ok116 : FnM Tryz.prog 116 fun116 := SC.okM s116 rfl (fn := Tryz.f116) (by kernel_rfl) (by kernel_rfl)
noncomputable def s167 : SC (Tryz.f167.body.getD .skip) := SC.mk' (by simp only [Tryz.f167, go_sem]; rfl)
noncomputable def fun167 : Fun := ⟨[0, 5, 8, 3, 6, 7, 9, 27, 2], [5], [], 1, s167.1, [.tmp 2], 0⟩
theorem ok167 : FnM Tryz.prog 167 fun167 := SC.okM s167 rfl (fn := Tryz.f167) (by kernel_rfl) (by kernel_rfl)
noncomputable def s172 : SC (Tryz.f172.body.getD .skip) := SC.mk' (by simp only [Tryz.f172, go_sem]; rfl)
noncomputable def fun172 : Fun := ⟨[0, 1, 2, 6], [], [], 3, s172.1, [.tmp 6], 0⟩
theorem ok172 : FnM Tryz.prog 172 fun172 := SC.okM s172 rfl (fn := Tryz.f172) (by kernel_rfl) (by kernel_rfl)
noncomputable def s176 : SC (Tryz.f176.body.getD .skip) := SC.mk' (by simp only [Tryz.f176, go_sem]; rfl)
noncomputable def fun176 : Fun := ⟨[0, 1, 2], [1], [], 1, s176.1, [.tmp 2], 0⟩
theorem ok176 : FnM Tryz.prog 176 fun176 := SC.okM s176 rfl (fn := Tryz.f176) (by kernel_rfl) (by kernel_rfl)
noncomputable def s198 : SC (Tryz.f198.body.getD .skip) := SC.mk' (by simp only [Tryz.f198, go_sem]; rfl)
noncomputable def fun198 : Fun := ⟨[0, 3, 4, 5, 6, 28, 50, 60, 86, 114, 133, 139, 153, 2], [3], [], 1, s198.1, [.tmp 2], 8⟩
theorem ok198 : FnM Tryz.prog 198 fun198 := SC.okM s198 rfl (fn := Tryz.f198) (by kernel_rfl) (by kernel_rfl)
noncomputable def s202 : SC (Tryz.f202.body.getD .skip) := SC.mk' (by simp only [Tryz.f202, go_sem]; rfl)
noncomputable def fun202 : Fun := ⟨[0, 1, 2], [1], [], 1, s202.1, [.tmp 2], 0⟩
theorem ok202 : FnM Tryz.prog 202 fun202 := SC.okM s202 rfl (fn := Tryz.f202) (by kernel_rfl) (by kernel_rfl)
noncomputable def s205 : SC (Tryz.f205.body.getD .skip) := SC.mk' (by simp only [Tryz.f205, go_sem]; rfl)
noncomputable def fun205 : Fun := ⟨[0, 1, 2, 4, 5, 13, 3], [1, 2, 4], [], 1, s205.1, [.cell 2 true 26, .tmp 3], 1⟩
theorem ok205 : FnM Tryz.prog 205 fun205 := SC.okM s205 rfl (fn := Tryz.f205) (by kernel_rfl) (by kernel_rfl)
noncomputable def s218 : SC (Tryz.f218.body.getD .skip) := SC.mk' (by simp only [Tryz.f218, go_sem]; rfl)
noncomputable def fun218 : Fun := ⟨[0, 1, 2], [1, 2], [], 1, s218.1, [.cell 2 true 3], 0⟩
theorem ok218 : FnM Tryz.prog 218 fun218 := SC.okM s218 rfl (fn := Tryz.f218) (by kernel_rfl) (by kernel_rfl)
noncomputable def s227 : SC (Tryz.f227.body.getD .skip) := SC.mk' (by simp only [Tryz.f227, go_sem]; rfl)
noncomputable def fun227 : Fun := ⟨[0, 1, 2, 4, 9, 5], [2, 4], [], 2, s227.1, [.cell 4 true 4, .tmp 5], 1⟩
theorem ok227 : FnM Tryz.prog 227 fun227 := SC.okM s227 rfl (fn := Tryz.f227) (by kernel_rfl) (by kernel_rfl)
noncomputable def s255 : SC (Tryz.f255.body.getD .skip) := SC.mk' (by simp only [Tryz.f255, go_sem]; rfl)
noncomputable def fun255 : Fun := ⟨[0, 1, 2, 3, 4, 5, 6, 12, 16, 49, 18, 15, 47, 19, 20, 35, 41, 48, 50, 63, 73, 13, 14], [12, 18, 19], [23, 25, 27, 29, 31], 6, s255.1, [.cell 12 true 8, .tmp 13, .tmp 14], 12⟩
theorem ok255 : FnM Tryz.prog 255 fun255 := SC.okM s255 rfl (fn := Tryz.f255) (by kernel_rfl) (by kernel_rfl)
noncomputable def s283 : SC (Tryz.f283.body.getD .skip) := SC.mk' (by simp only [Tryz.f283, go_sem]; rfl)
noncomputable def fun283 : Fun := ⟨[0, 1, 2], [], [], 1, s283.1, [.tmp 2], 8⟩
theorem ok283 : FnM Tryz.prog 283 fun283 := SC.okM s283 rfl (fn := Tryz.f283) (by kernel_rfl) (by kernel_rfl)
noncomputable def s286 : SC (Tryz.f286.body.getD .skip) := SC.mk' (by simp only [Tryz.f286, go_sem]; rfl)
noncomputable def fun286 : Fun := ⟨[0, 2], [], [], 1, s286.1, [.tmp 2], 0⟩
theorem ok286 : FnM Tryz.prog 286 fun286 := SC.okM s286 rfl (fn := Tryz.f286) (by kernel_rfl) (by kernel_rfl)
noncomputable def s293 : SC (Tryz.f293.body.getD .skip) := SC.mk' (by simp only [Tryz.f293, go_sem]; rfl)
noncomputable def fun293 : Fun := ⟨[0, 1, 2, 4, 6, 11, 3, 8, 9, 13, 22, 33, 44, 48, 52, 7], [3, 4, 6], [], 3, s293.1, [.cell 6 true 4, .tmp 7], 1⟩
theorem ok293 : FnM Tryz.prog 293 fun293 := SC.okM s293 rfl (fn := Tryz.f293) (by kernel_rfl) (by kernel_rfl)
noncomputable def s299 : SC (Tryz.f299.body.getD .skip) := SC.mk' (by simp only [Tryz.f299, go_sem]; rfl)
noncomputable def fun299 : Fun := ⟨[0, 1, 3, 8, 4, 61, 5, 6, 59, 9, 40, 45, 56, 60, 62, 68, 81, 2], [1, 8], [], 1, s299.1, [.tmp 2], 2⟩
theorem ok299 : FnM Tryz.prog 299 fun299 := SC.okM s299 rfl (fn := Tryz.f299) (by kernel_rfl) (by kernel_rfl)
noncomputable def s300 : SC (Tryz.f300.body.getD .skip) := SC.mk' (by simp only [Tryz.f300, go_sem]; rfl)
noncomputable def fun300 : Fun := ⟨[0, 1, 4, 14, 12, 3, 5, 6, 10, 13, 15, 23, 25, 30, 35, 57, 61, 2], [1, 4], [], 1, s300.1, [.tmp 2], 5⟩
theorem ok300 : FnM Tryz.prog 300 fun300 := SC.okM s300 rfl (fn := Tryz.f300) (by kernel_rfl) (by kernel_rfl)
noncomputable def s301 : SC (Tryz.f301.body.getD .skip) := SC.mk' (by simp only [Tryz.f301, go_sem]; rfl)
noncomputable def fun301 : Fun := ⟨[0, 13, 1, 3, 11, 5, 12, 14, 2], [1, 5], [], 1, s301.1, [.tmp 2], 4⟩
theorem ok301 : FnM Tryz.prog 301 fun301 := SC.okM s301 rfl (fn := Tryz.f301) (by kernel_rfl) (by kernel_rfl)
noncomputable def s310 : SC (Tryz.f310.body.getD .skip) := SC.mk' (by simp only [Tryz.f310, go_sem]; rfl)
noncomputable def fun310 : Fun := ⟨[0, 1, 5, 2], [1], [], 1, s310.1, [.tmp 2], 8⟩
theorem ok310 : FnM Tryz.prog 310 fun310 := SC.okM s310 rfl (fn := Tryz.f310) (by kernel_rfl) (by kernel_rfl)
noncomputable def s314 : SC (Tryz.f314.body.getD .skip) := SC.mk' (by simp only [Tryz.f314, go_sem]; rfl)
noncomputable def fun314 : Fun := ⟨[0, 1, 2, 25, 33, 6], [], [], 3, s314.1, [.tmp 6], 0⟩
theorem ok314 : FnM Tryz.prog 314 fun314 := SC.okM s314 rfl (fn := Tryz.f314) (by kernel_rfl) (by kernel_rfl)
noncomputable def s318 : SC (Tryz.f318.body.getD .skip) := SC.mk' (by simp only [Tryz.f318, go_sem]; rfl)
noncomputable def fun318 : Fun := ⟨[0, 1, 3, 6, 9, 7, 8, 5, 10, 11, 4, 12, 31, 36, 59, 64, 69, 88, 93, 105, 108, 139, 142, 152, 161, 2], [1, 6], [], 1, s318.1, [.tmp 2], 1⟩
theorem ok318 : FnM Tryz.prog 318 fun318 := SC.okM s318 rfl (fn := Tryz.f318) (by kernel_rfl) (by kernel_rfl)
noncomputable def s349 : SC (Tryz.f349.body.getD .skip) := SC.mk' (by simp only [Tryz.f349, go_sem]; rfl)
noncomputable def fun349 : Fun := ⟨[0, 1, 4], [], [], 2, s349.1, [.tmp 4], 1⟩
theorem ok349 : FnM Tryz.prog 349 fun349 := SC.okM s349 rfl (fn := Tryz.f349) (by kernel_rfl) (by kernel_rfl)
noncomputable def s356 : SC (Tryz.f356.body.getD .skip) := SC.mk' (by simp only [Tryz.f356, go_sem]; rfl)
noncomputable def fun356 : Fun := ⟨[0, 4, 2], [], [], 1, s356.1, [.tmp 2], 0⟩
theorem ok356 : FnM Tryz.prog 356 fun356 := SC.okM s356 rfl (fn := Tryz.f356) (by kernel_rfl) (by kernel_rfl)
noncomputable def s391 : SC (Tryz.f391.body.getD .skip) := SC.mk' (by simp only [Tryz.f391, go_sem]; rfl)
noncomputable def fun391 : Fun := ⟨[0, 1, 5, 6, 7, 12, 19, 29, 4], [], [], 2, s391.1, [.tmp 4], 7⟩
theorem ok391 : FnM Tryz.prog 391 fun391 := SC.okM s391 rfl (fn := Tryz.f391) (by kernel_rfl) (by kernel_rfl)
noncomputable def s410 : SC (Tryz.f410.body.getD .skip) := SC.mk' (by simp only [Tryz.f410, go_sem]; rfl)
noncomputable def fun410 : Fun := ⟨[0, 1, 2, 3, 4, 6, 11, 5], [2, 3, 4], [], 2, s410.1, [.cell 4 true 3, .tmp 5], 4⟩
theorem ok410 : FnM Tryz.prog 410 fun410 := SC.okM s410 rfl (fn := Tryz.f410) (by kernel_rfl) (by kernel_rfl)
noncomputable def s415 : SC (Tryz.f415.body.getD .skip) := SC.mk' (by simp only [Tryz.f415, go_sem]; rfl)
noncomputable def fun415 : Fun := ⟨[0, 2], [], [], 1, s415.1, [.tmp 2], 0⟩
theorem ok415 : FnM Tryz.prog 415 fun415 := SC.okM s415 rfl (fn := Tryz.f415) (by kernel_rfl) (by kernel_rfl)
noncomputable def s434 : SC (Tryz.f434.body.getD .skip) := SC.mk' (by simp only [Tryz.f434, go_sem]; rfl)
noncomputable def fun434 : Fun := ⟨[0, 1, 2, 9, 11, 8, 10, 17, 31, 6, 7], [], [], 3, s434.1, [.tmp 6, .tmp 7], 3⟩
theorem ok434 : FnM Tryz.prog 434 fun434 := SC.okM s434 rfl (fn := Tryz.f434) (by kernel_rfl) (by kernel_rfl)
noncomputable def s435 : SC (Tryz.f435.body.getD .skip) := SC.mk' (by simp only [Tryz.f435, go_sem]; rfl)
noncomputable def fun435 : Fun := ⟨[0, 1, 2, 4], [2], [], 2, s435.1, [.tmp 4], 2⟩
theorem ok435 : FnM Tryz.prog 435 fun435 := SC.okM s435 rfl (fn := Tryz.f435) (by kernel_rfl) (by kernel_rfl)
noncomputable def s494 : SC (Tryz.f494.body.getD .skip) := SC.mk' (by simp only [Tryz.f494, go_sem]; rfl)
noncomputable def fun494 : Fun := ⟨[0, 1, 2, 3], [2], [], 2, s494.1, [.tmp 3], 0⟩
theorem ok494 : FnM Tryz.prog 494 fun494 := SC.okM s494 rfl (fn := Tryz.f494) (by kernel_rfl) (by kernel_rfl)
noncomputable def s498 : SC (Tryz.f498.body.getD .skip) := SC.mk' (by simp only [Tryz.f498, go_sem]; rfl)
noncomputable def fun498 : Fun := ⟨[0, 1, 2, 7, 6, 4, 5, 22], [2, 4, 5, 6], [], 2, s498.1, [.cell 4 true 3, .cell 5 true 7], 2⟩
theorem ok498 : FnM Tryz.prog 498 fun498 := SC.okM s498 rfl (fn := Tryz.f498) (by kernel_rfl) (by kernel_rfl)
noncomputable def s521 : SC (Tryz.f521.body.getD .skip) := SC.mk' (by simp only [Tryz.f521, go_sem]; rfl)
noncomputable def fun521 : Fun := ⟨[0, 1, 2, 4, 9, 5], [2, 4], [], 2, s521.1, [.cell 4 true 8, .tmp 5], 1⟩
theorem ok521 : FnM Tryz.prog 521 fun521 := SC.okM s521 rfl (fn := Tryz.f521) (by kernel_rfl) (by kernel_rfl)
noncomputable def s526 : SC (Tryz.f526.body.getD .skip) := SC.mk' (by simp only [Tryz.f526, go_sem]; rfl)
noncomputable def fun526 : Fun := ⟨[0, 1, 5, 2, 11, 21, 4], [2], [], 2, s526.1, [.tmp 4], 0⟩
theorem ok526 : FnM Tryz.prog 526 fun526 := SC.okM s526 rfl (fn := Tryz.f526) (by kernel_rfl) (by kernel_rfl)
noncomputable def s533 : SC (Tryz.f533.body.getD .skip) := SC.mk' (by simp only [Tryz.f533, go_sem]; rfl)
noncomputable def fun533 : Fun := ⟨[0, 8, 3, 6, 5, 7, 9, 14, 2], [], [], 1, s533.1, [.tmp 2], 0⟩
theorem ok533 : FnM Tryz.prog 533 fun533 := SC.okM s533 rfl (fn := Tryz.f533) (by kernel_rfl) (by kernel_rfl)
noncomputable def s540 : SC (Tryz.f540.body.getD .skip) := SC.mk' (by simp only [Tryz.f540, go_sem]; rfl)
noncomputable def fun540 : Fun := ⟨[0, 1, 2, 3, 6, 11], [3, 6], [], 3, s540.1, [.cell 6 true 11], 0⟩
theorem ok540 : FnM Tryz.prog 540 fun540 := SC.okM s540 rfl (fn := Tryz.f540) (by kernel_rfl) (by kernel_rfl)
noncomputable def s541 : SC (Tryz.f541.body.getD .skip) := SC.mk' (by simp only [Tryz.f541, go_sem]; rfl)
noncomputable def fun541 : Fun := ⟨[0, 1, 2, 3, 15, 23, 6], [3], [], 3, s541.1, [.tmp 6], 1⟩
theorem ok541 : FnM Tryz.prog 541 fun541 := SC.okM s541 rfl (fn := Tryz.f541) (by kernel_rfl) (by kernel_rfl)
end Go.M
