/-
  The codes of functions, as the machine takes them.
  No condition: definitions and lemmas.
-/
import Derived.Test.YthcgieflnpkgnaaGreatQtyB
set_option linter.all false
set_option maxRecDepth 100000
set_option maxHeartbeats 4000000
namespace Go.M
open Go Go.Proofs
open Go.Eng (SOp SOper SCode sizeP aggP zerosOf bytesP zeroVal stripCode stripOps stripOper strip stripParts kindsOf)

noncomputable def s7 : SC (Tryz.f7.body.getD .skip) := SC.mk' (by simp only [Tryz.f7, go_sem]; rfl)
noncomputable def fun7 : Fun := ⟨[0, 1, 6, 7, 4, 8, 2, 57, 78, 90, 3], [1, 2, 4, 6, 8], [], 1, s7.1, [.cell 2 true 11, .tmp 3], 2⟩
theorem ok7 : FnM Tryz.prog 7 fun7 := SC.okM s7 rfl (fn := Tryz.f7) (by kernel_rfl) (by kernel_rfl)
noncomputable def s13 : SC (Tryz.f13.body.getD .skip) := SC.mk' (by simp only [Tryz.f13, go_sem]; rfl)
noncomputable def fun13 : Fun := ⟨[0, 1, 2, 6], [6], [], 3, s13.1, [.cell 6 true 8], 0⟩
theorem ok13 : FnM Tryz.prog 13 fun13 := SC.okM s13 rfl (fn := Tryz.f13) (by kernel_rfl) (by kernel_rfl)
noncomputable def s14 : SC (Tryz.f14.body.getD .skip) := SC.mk' (by simp only [Tryz.f14, go_sem]; rfl)
noncomputable def fun14 : Fun := ⟨[0, 1, 2, 3, 9, 12, 4, 11, 8, 20, 40], [4, 8, 9], [], 4, s14.1, [.cell 8 true 23], 18⟩
theorem ok14 : FnM Tryz.prog 14 fun14 := SC.okM s14 rfl (fn := Tryz.f14) (by kernel_rfl) (by kernel_rfl)
noncomputable def s15 : SC (Tryz.f15.body.getD .skip) := SC.mk' (by simp only [Tryz.f15, go_sem]; rfl)
noncomputable def fun15 : Fun := ⟨[0, 1, 2, 3, 12, 15, 4, 17, 8, 14, 16, 5, 6, 33, 18, 19, 53, 9, 10, 11], [4, 5, 6, 8, 12, 16, 17], [], 4, s15.1, [.cell 8 true 11, .tmp 9, .tmp 10, .tmp 11], 17⟩
theorem ok15 : FnM Tryz.prog 15 fun15 := SC.okM s15 rfl (fn := Tryz.f15) (by kernel_rfl) (by kernel_rfl)
noncomputable def s29 : SC (Tryz.f29.body.getD .skip) := SC.mk' (by simp only [Tryz.f29, go_sem]; rfl)
noncomputable def fun29 : Fun := ⟨[0, 1, 2, 6, 8, 9, 16, 22, 7], [6, 8], [], 3, s29.1, [.cell 6 true 8, .tmp 7], 1⟩
theorem ok29 : FnM Tryz.prog 29 fun29 := SC.okM s29 rfl (fn := Tryz.f29) (by kernel_rfl) (by kernel_rfl)
noncomputable def s31 : SC (Tryz.f31.body.getD .skip) := SC.mk' (by simp only [Tryz.f31, go_sem]; rfl)
noncomputable def fun31 : Fun := ⟨[0, 1, 2, 3, 8, 6, 5, 11, 12, 22, 30, 37, 9], [5, 6, 8, 10], [], 4, s31.1, [.cell 8 true 63, .tmp 9], 3⟩
theorem ok31 : FnM Tryz.prog 31 fun31 := SC.okM s31 rfl (fn := Tryz.f31) (by kernel_rfl) (by kernel_rfl)
noncomputable def s33 : SC (Tryz.f33.body.getD .skip) := SC.mk' (by simp only [Tryz.f33, go_sem]; rfl)
noncomputable def fun33 : Fun := ⟨[0, 1, 5, 2], [1], [], 1, s33.1, [.tmp 2], 3⟩
theorem ok33 : FnM Tryz.prog 33 fun33 := SC.okM s33 rfl (fn := Tryz.f33) (by kernel_rfl) (by kernel_rfl)
noncomputable def s43 : SC (Tryz.f43.body.getD .skip) := SC.mk' (by simp only [Tryz.f43, go_sem]; rfl)
noncomputable def fun43 : Fun := ⟨[0, 1, 4], [], [], 2, s43.1, [.tmp 4], 0⟩
theorem ok43 : FnM Tryz.prog 43 fun43 := SC.okM s43 rfl (fn := Tryz.f43) (by kernel_rfl) (by kernel_rfl)
noncomputable def s54 : SC (Tryz.f54.body.getD .skip) := SC.mk' (by simp only [Tryz.f54, go_sem]; rfl)
noncomputable def fun54 : Fun := ⟨[0, 2, 9, 3], [2], [], 1, s54.1, [.cell 2 true 3, .tmp 3], 0⟩
theorem ok54 : FnM Tryz.prog 54 fun54 := SC.okM s54 rfl (fn := Tryz.f54) (by kernel_rfl) (by kernel_rfl)
noncomputable def s65 : SC (Tryz.f65.body.getD .skip) := SC.mk' (by simp only [Tryz.f65, go_sem]; rfl)
noncomputable def fun65 : Fun := ⟨[0, 1, 6, 7, 8, 3, 4, 5, 13, 19, 31, 43, 49, 55, 61, 81, 85, 96, 2], [1], [], 1, s65.1, [.tmp 2], 6⟩
theorem ok65 : FnM Tryz.prog 65 fun65 := SC.okM s65 rfl (fn := Tryz.f65) (by kernel_rfl) (by kernel_rfl)
noncomputable def s70 : SC (Tryz.f70.body.getD .skip) := SC.mk' (by simp only [Tryz.f70, go_sem]; rfl)
noncomputable def fun70 : Fun := ⟨[0, 1, 3, 6, 2], [1], [], 1, s70.1, [.tmp 2], 1⟩
theorem ok70 : FnM Tryz.prog 70 fun70 := SC.okM s70 rfl (fn := Tryz.f70) (by kernel_rfl) (by kernel_rfl)
noncomputable def s75 : SC (Tryz.f75.body.getD .skip) := SC.mk' (by simp only [Tryz.f75, go_sem]; rfl)
noncomputable def fun75 : Fun := ⟨[0, 1, 2, 4, 3, 6, 7, 11, 12, 34, 35, 47, 13, 10, 28, 42, 48, 61, 14, 71, 84, 8, 9], [3, 4, 6, 7, 12, 13], [], 3, s75.1, [.cell 6 true 11, .cell 7 true 63, .tmp 8, .tmp 9], 15⟩
theorem ok75 : FnM Tryz.prog 75 fun75 := SC.okM s75 rfl (fn := Tryz.f75) (by kernel_rfl) (by kernel_rfl)
noncomputable def s98 : SC (Tryz.f98.body.getD .skip) := SC.mk' (by simp only [Tryz.f98, go_sem]; rfl)
noncomputable def fun98 : Fun := ⟨[0, 1, 2, 6, 7, 11, 15, 4, 5], [2], [], 2, s98.1, [.tmp 4, .tmp 5], 0⟩
theorem ok98 : FnM Tryz.prog 98 fun98 := SC.okM s98 rfl (fn := Tryz.f98) (by kernel_rfl) (by kernel_rfl)
noncomputable def s112 : SC (Tryz.f112.body.getD .skip) := SC.mk' (by simp only [Tryz.f112, go_sem]; rfl)
noncomputable def fun112 : Fun := ⟨[0, 4, 1, 10, 5, 2], [1], [], 1, s112.1, [.tmp 2], 0⟩
theorem ok112 : FnM Tryz.prog 112 fun112 := SC.okM s112 rfl (fn := Tryz.f112) (by kernel_rfl) (by kernel_rfl)
noncomputable def s114 : SC (Tryz.f114.body.getD .skip) := SC.mk' (by simp only [Tryz.f114, go_sem]; rfl)
noncomputable def fun114 : Fun := ⟨[0, 5, 1, 6, 8, 10, 2], [1], [], 1, s114.1, [.tmp 2], 0⟩
theorem ok114 : FnM Tryz.prog 114 fun114 := SC.okM s114 rfl (fn := Tryz.f114) (by kernel_rfl) (by kernel_rfl)
noncomputable def s119 : SC (Tryz.f119.body.getD .skip) := SC.mk' (by simp only [Tryz.f119, go_sem]; rfl)
noncomputable def fun119 : Fun := ⟨[0, 1, 3, 6, 5, 2, 32], [1, 2, 3, 4, 6], [], 1, s119.1, [.cell 2 true 10], 14⟩
theorem ok119 : FnM Tryz.prog 119 fun119 := SC.okM s119 rfl (fn := Tryz.f119) (by kernel_rfl) (by kernel_rfl)
noncomputable def s139 : SC (Tryz.f139.body.getD .skip) := SC.mk' (by simp only [Tryz.f139, go_sem]; rfl)
noncomputable def fun139 : Fun := ⟨[0], [0], [], 0, s139.1, [.cell 0 true 4], 0⟩
theorem ok139 : FnM Tryz.prog 139 fun139 := SC.okM s139 rfl (fn := Tryz.f139) (by kernel_rfl) (by kernel_rfl)
noncomputable def s164 : SC (Tryz.f164.body.getD .skip) := SC.mk' (by simp only [Tryz.f164, go_sem]; rfl)
noncomputable def fun164 : Fun := ⟨[0, 1, 2, 40, 8, 38, 20, 32, 39, 41, 10, 6, 7], [], [], 3, s164.1, [.tmp 6, .tmp 7], 0⟩
theorem ok164 : FnM Tryz.prog 164 fun164 := SC.okM s164 rfl (fn := Tryz.f164) (by kernel_rfl) (by kernel_rfl)
noncomputable def s172 : SC (Tryz.f172.body.getD .skip) := SC.mk' (by simp only [Tryz.f172, go_sem]; rfl)
noncomputable def fun172 : Fun := ⟨[0, 1, 2, 6], [], [], 3, s172.1, [.tmp 6], 0⟩
theorem ok172 : FnM Tryz.prog 172 fun172 := SC.okM s172 rfl (fn := Tryz.f172) (by kernel_rfl) (by kernel_rfl)
noncomputable def s197 : SC (Tryz.f197.body.getD .skip) := SC.mk' (by simp only [Tryz.f197, go_sem]; rfl)
noncomputable def fun197 : Fun := ⟨[0, 3, 31, 2], [], [], 1, s197.1, [.tmp 2], 2⟩
theorem ok197 : FnM Tryz.prog 197 fun197 := SC.okM s197 rfl (fn := Tryz.f197) (by kernel_rfl) (by kernel_rfl)
noncomputable def s198 : SC (Tryz.f198.body.getD .skip) := SC.mk' (by simp only [Tryz.f198, go_sem]; rfl)
noncomputable def fun198 : Fun := ⟨[0, 3, 4, 5, 6, 28, 50, 60, 86, 114, 133, 139, 153, 2], [3], [], 1, s198.1, [.tmp 2], 8⟩
theorem ok198 : FnM Tryz.prog 198 fun198 := SC.okM s198 rfl (fn := Tryz.f198) (by kernel_rfl) (by kernel_rfl)
noncomputable def s200 : SC (Tryz.f200.body.getD .skip) := SC.mk' (by simp only [Tryz.f200, go_sem]; rfl)
noncomputable def fun200 : Fun := ⟨[0, 3, 6, 4, 5, 44, 71, 106, 134, 156, 2], [4, 5], [], 1, s200.1, [.tmp 2], 11⟩
theorem ok200 : FnM Tryz.prog 200 fun200 := SC.okM s200 rfl (fn := Tryz.f200) (by kernel_rfl) (by kernel_rfl)
noncomputable def s207 : SC (Tryz.f207.body.getD .skip) := SC.mk' (by simp only [Tryz.f207, go_sem]; rfl)
noncomputable def fun207 : Fun := ⟨[0, 1, 5, 9, 18, 4], [], [], 2, s207.1, [.tmp 4], 0⟩
theorem ok207 : FnM Tryz.prog 207 fun207 := SC.okM s207 rfl (fn := Tryz.f207) (by kernel_rfl) (by kernel_rfl)
noncomputable def s215 : SC (Tryz.f215.body.getD .skip) := SC.mk' (by simp only [Tryz.f215, go_sem]; rfl)
noncomputable def fun215 : Fun := ⟨[0, 1, 2, 3, 5, 4, 8], [4, 5, 8], [], 4, s215.1, [.cell 8 true 63], 3⟩
theorem ok215 : FnM Tryz.prog 215 fun215 := SC.okM s215 rfl (fn := Tryz.f215) (by kernel_rfl) (by kernel_rfl)
noncomputable def s245 : SC (Tryz.f245.body.getD .skip) := SC.mk' (by simp only [Tryz.f245, go_sem]; rfl)
noncomputable def fun245 : Fun := ⟨[0, 1, 2, 3, 9, 5, 4, 10, 8], [4, 5, 9], [], 4, s245.1, [.tmp 8], 7⟩
theorem ok245 : FnM Tryz.prog 245 fun245 := SC.okM s245 rfl (fn := Tryz.f245) (by kernel_rfl) (by kernel_rfl)
noncomputable def s251 : SC (Tryz.f251.body.getD .skip) := SC.mk' (by simp only [Tryz.f251, go_sem]; rfl)
noncomputable def fun251 : Fun := ⟨[0, 2], [], [], 1, s251.1, [.tmp 2], 1⟩
theorem ok251 : FnM Tryz.prog 251 fun251 := SC.okM s251 rfl (fn := Tryz.f251) (by kernel_rfl) (by kernel_rfl)
noncomputable def s282 : SC (Tryz.f282.body.getD .skip) := SC.mk' (by simp only [Tryz.f282, go_sem]; rfl)
noncomputable def fun282 : Fun := ⟨[0, 1, 2, 4, 6, 7, 10, 3, 20, 11, 30, 38, 8], [3, 4, 6, 7], [], 3, s282.1, [.cell 6 true 11, .cell 7 true 5, .tmp 8], 4⟩
theorem ok282 : FnM Tryz.prog 282 fun282 := SC.okM s282 rfl (fn := Tryz.f282) (by kernel_rfl) (by kernel_rfl)
noncomputable def s283 : SC (Tryz.f283.body.getD .skip) := SC.mk' (by simp only [Tryz.f283, go_sem]; rfl)
noncomputable def fun283 : Fun := ⟨[0, 1, 2], [], [], 1, s283.1, [.tmp 2], 8⟩
theorem ok283 : FnM Tryz.prog 283 fun283 := SC.okM s283 rfl (fn := Tryz.f283) (by kernel_rfl) (by kernel_rfl)
noncomputable def s286 : SC (Tryz.f286.body.getD .skip) := SC.mk' (by simp only [Tryz.f286, go_sem]; rfl)
noncomputable def fun286 : Fun := ⟨[0, 2], [], [], 1, s286.1, [.tmp 2], 0⟩
theorem ok286 : FnM Tryz.prog 286 fun286 := SC.okM s286 rfl (fn := Tryz.f286) (by kernel_rfl) (by kernel_rfl)
noncomputable def s287 : SC (Tryz.f287.body.getD .skip) := SC.mk' (by simp only [Tryz.f287, go_sem]; rfl)
noncomputable def fun287 : Fun := ⟨[0, 1, 2, 4, 10, 16, 3], [1, 2], [], 1, s287.1, [.cell 2 true 4, .tmp 3], 1⟩
theorem ok287 : FnM Tryz.prog 287 fun287 := SC.okM s287 rfl (fn := Tryz.f287) (by kernel_rfl) (by kernel_rfl)
noncomputable def s300 : SC (Tryz.f300.body.getD .skip) := SC.mk' (by simp only [Tryz.f300, go_sem]; rfl)
noncomputable def fun300 : Fun := ⟨[0, 1, 4, 14, 12, 3, 5, 6, 10, 13, 15, 23, 25, 30, 35, 57, 61, 2], [1, 4], [], 1, s300.1, [.tmp 2], 5⟩
theorem ok300 : FnM Tryz.prog 300 fun300 := SC.okM s300 rfl (fn := Tryz.f300) (by kernel_rfl) (by kernel_rfl)
noncomputable def s307 : SC (Tryz.f307.body.getD .skip) := SC.mk' (by simp only [Tryz.f307, go_sem]; rfl)
noncomputable def fun307 : Fun := ⟨[0, 1, 2, 3, 8, 9, 11, 12, 13, 4, 5, 24, 10], [4, 5, 8, 9, 11, 12], [], 4, s307.1, [.cell 8 true 11, .cell 9 true 26, .tmp 10], 12⟩
theorem ok307 : FnM Tryz.prog 307 fun307 := SC.okM s307 rfl (fn := Tryz.f307) (by kernel_rfl) (by kernel_rfl)
noncomputable def s310 : SC (Tryz.f310.body.getD .skip) := SC.mk' (by simp only [Tryz.f310, go_sem]; rfl)
noncomputable def fun310 : Fun := ⟨[0, 1, 5, 2], [1], [], 1, s310.1, [.tmp 2], 8⟩
theorem ok310 : FnM Tryz.prog 310 fun310 := SC.okM s310 rfl (fn := Tryz.f310) (by kernel_rfl) (by kernel_rfl)
noncomputable def s312 : SC (Tryz.f312.body.getD .skip) := SC.mk' (by simp only [Tryz.f312, go_sem]; rfl)
noncomputable def fun312 : Fun := ⟨[0, 1, 2], [1], [], 1, s312.1, [.tmp 2], 0⟩
theorem ok312 : FnM Tryz.prog 312 fun312 := SC.okM s312 rfl (fn := Tryz.f312) (by kernel_rfl) (by kernel_rfl)
noncomputable def s314 : SC (Tryz.f314.body.getD .skip) := SC.mk' (by simp only [Tryz.f314, go_sem]; rfl)
noncomputable def fun314 : Fun := ⟨[0, 1, 2, 25, 33, 6], [], [], 3, s314.1, [.tmp 6], 0⟩
theorem ok314 : FnM Tryz.prog 314 fun314 := SC.okM s314 rfl (fn := Tryz.f314) (by kernel_rfl) (by kernel_rfl)
noncomputable def s351 : SC (Tryz.f351.body.getD .skip) := SC.mk' (by simp only [Tryz.f351, go_sem]; rfl)
noncomputable def fun351 : Fun := ⟨[0, 1, 2, 4], [2], [], 2, s351.1, [.tmp 4], 0⟩
theorem ok351 : FnM Tryz.prog 351 fun351 := SC.okM s351 rfl (fn := Tryz.f351) (by kernel_rfl) (by kernel_rfl)
noncomputable def s352 : SC (Tryz.f352.body.getD .skip) := SC.mk' (by simp only [Tryz.f352, go_sem]; rfl)
noncomputable def fun352 : Fun := ⟨[0, 1, 2, 4, 5, 7, 8, 11, 15, 9, 26, 10, 37, 6], [2, 4, 5], [44], 2, s352.1, [.cell 4 true 2, .cell 5 true 7, .tmp 6], 7⟩
theorem ok352 : FnM Tryz.prog 352 fun352 := SC.okM s352 rfl (fn := Tryz.f352) (by kernel_rfl) (by kernel_rfl)
noncomputable def s355 : SC (Tryz.f355.body.getD .skip) := SC.mk' (by simp only [Tryz.f355, go_sem]; rfl)
noncomputable def fun355 : Fun := ⟨[0, 1, 2, 4], [2], [], 2, s355.1, [.tmp 4], 0⟩
theorem ok355 : FnM Tryz.prog 355 fun355 := SC.okM s355 rfl (fn := Tryz.f355) (by kernel_rfl) (by kernel_rfl)
noncomputable def s357 : SC (Tryz.f357.body.getD .skip) := SC.mk' (by simp only [Tryz.f357, go_sem]; rfl)
noncomputable def fun357 : Fun := ⟨[0, 4, 2], [], [], 1, s357.1, [.tmp 2], 0⟩
theorem ok357 : FnM Tryz.prog 357 fun357 := SC.okM s357 rfl (fn := Tryz.f357) (by kernel_rfl) (by kernel_rfl)
noncomputable def s361 : SC (Tryz.f361.body.getD .skip) := SC.mk' (by simp only [Tryz.f361, go_sem]; rfl)
noncomputable def fun361 : Fun := ⟨[0, 1, 6, 7, 11, 17, 4, 5], [], [], 2, s361.1, [.tmp 4, .tmp 5], 6⟩
theorem ok361 : FnM Tryz.prog 361 fun361 := SC.okM s361 rfl (fn := Tryz.f361) (by kernel_rfl) (by kernel_rfl)
noncomputable def s389 : SC (Tryz.f389.body.getD .skip) := SC.mk' (by simp only [Tryz.f389, go_sem]; rfl)
noncomputable def fun389 : Fun := ⟨[0, 1, 2, 4, 3, 6, 7, 10, 21, 9, 38, 42, 53, 55, 8], [3, 4, 6, 7], [], 3, s389.1, [.cell 6 true 11, .cell 7 true 5, .tmp 8], 3⟩
theorem ok389 : FnM Tryz.prog 389 fun389 := SC.okM s389 rfl (fn := Tryz.f389) (by kernel_rfl) (by kernel_rfl)
noncomputable def s404 : SC (Tryz.f404.body.getD .skip) := SC.mk' (by simp only [Tryz.f404, go_sem]; rfl)
noncomputable def fun404 : Fun := ⟨[0, 1, 7, 3, 6, 8, 4, 2], [1], [], 1, s404.1, [.tmp 2], 1⟩
theorem ok404 : FnM Tryz.prog 404 fun404 := SC.okM s404 rfl (fn := Tryz.f404) (by kernel_rfl) (by kernel_rfl)
noncomputable def s423 : SC (Tryz.f423.body.getD .skip) := SC.mk' (by simp only [Tryz.f423, go_sem]; rfl)
noncomputable def fun423 : Fun := ⟨[0, 1, 2, 4], [2, 4], [], 2, s423.1, [.cell 4 true 26], 0⟩
theorem ok423 : FnM Tryz.prog 423 fun423 := SC.okM s423 rfl (fn := Tryz.f423) (by kernel_rfl) (by kernel_rfl)
noncomputable def s428 : SC (Tryz.f428.body.getD .skip) := SC.mk' (by simp only [Tryz.f428, go_sem]; rfl)
noncomputable def fun428 : Fun := ⟨[0, 2], [], [], 1, s428.1, [.tmp 2], 0⟩
theorem ok428 : FnM Tryz.prog 428 fun428 := SC.okM s428 rfl (fn := Tryz.f428) (by kernel_rfl) (by kernel_rfl)
noncomputable def s431 : SC (Tryz.f431.body.getD .skip) := SC.mk' (by simp only [Tryz.f431, go_sem]; rfl)
noncomputable def fun431 : Fun := ⟨[0, 1, 8, 5, 7, 9, 16, 4], [], [], 2, s431.1, [.tmp 4], 0⟩
theorem ok431 : FnM Tryz.prog 431 fun431 := SC.okM s431 rfl (fn := Tryz.f431) (by kernel_rfl) (by kernel_rfl)
noncomputable def s436 : SC (Tryz.f436.body.getD .skip) := SC.mk' (by simp only [Tryz.f436, go_sem]; rfl)
noncomputable def fun436 : Fun := ⟨[0, 1, 6, 5, 11, 12, 13, 16, 19, 4], [], [], 2, s436.1, [.tmp 4], 1⟩
theorem ok436 : FnM Tryz.prog 436 fun436 := SC.okM s436 rfl (fn := Tryz.f436) (by kernel_rfl) (by kernel_rfl)
noncomputable def s460 : SC (Tryz.f460.body.getD .skip) := SC.mk' (by simp only [Tryz.f460, go_sem]; rfl)
noncomputable def fun460 : Fun := ⟨[0, 1, 2, 3, 6, 9, 10, 23, 26, 7, 8], [3, 6], [], 3, s460.1, [.cell 6 true 11, .tmp 7, .tmp 8], 2⟩
theorem ok460 : FnM Tryz.prog 460 fun460 := SC.okM s460 rfl (fn := Tryz.f460) (by kernel_rfl) (by kernel_rfl)
noncomputable def s467 : SC (Tryz.f467.body.getD .skip) := SC.mk' (by simp only [Tryz.f467, go_sem]; rfl)
noncomputable def fun467 : Fun := ⟨[0, 1, 2, 6], [], [], 3, s467.1, [.tmp 6], 3⟩
theorem ok467 : FnM Tryz.prog 467 fun467 := SC.okM s467 rfl (fn := Tryz.f467) (by kernel_rfl) (by kernel_rfl)
noncomputable def s475 : SC (Tryz.f475.body.getD .skip) := SC.mk' (by simp only [Tryz.f475, go_sem]; rfl)
noncomputable def fun475 : Fun := ⟨[0, 1, 2, 4, 3, 6, 7, 9, 10, 11, 29, 53, 67, 79, 8], [3, 4, 6, 7], [], 3, s475.1, [.cell 6 true 11, .cell 7 true 26, .tmp 8], 8⟩
theorem ok475 : FnM Tryz.prog 475 fun475 := SC.okM s475 rfl (fn := Tryz.f475) (by kernel_rfl) (by kernel_rfl)
noncomputable def s485 : SC (Tryz.f485.body.getD .skip) := SC.mk' (by simp only [Tryz.f485, go_sem]; rfl)
noncomputable def fun485 : Fun := ⟨[0, 1, 3, 6, 10, 12, 16, 20, 4, 5], [3], [], 2, s485.1, [.tmp 4, .tmp 5], 2⟩
theorem ok485 : FnM Tryz.prog 485 fun485 := SC.okM s485 rfl (fn := Tryz.f485) (by kernel_rfl) (by kernel_rfl)
noncomputable def s512 : SC (Tryz.f512.body.getD .skip) := SC.mk' (by simp only [Tryz.f512, go_sem]; rfl)
noncomputable def fun512 : Fun := ⟨[0, 1, 2, 3, 6, 11], [3, 6], [], 3, s512.1, [.cell 6 true 11], 1⟩
theorem ok512 : FnM Tryz.prog 512 fun512 := SC.okM s512 rfl (fn := Tryz.f512) (by kernel_rfl) (by kernel_rfl)
noncomputable def s515 : SC (Tryz.f515.body.getD .skip) := SC.mk' (by simp only [Tryz.f515, go_sem]; rfl)
noncomputable def fun515 : Fun := ⟨[0, 1, 8, 5, 3, 7, 9, 16, 4], [3], [], 2, s515.1, [.tmp 4], 0⟩
theorem ok515 : FnM Tryz.prog 515 fun515 := SC.okM s515 rfl (fn := Tryz.f515) (by kernel_rfl) (by kernel_rfl)
noncomputable def s527 : SC (Tryz.f527.body.getD .skip) := SC.mk' (by simp only [Tryz.f527, go_sem]; rfl)
noncomputable def fun527 : Fun := ⟨[0, 1, 2, 3, 8, 4, 5, 10, 20, 25, 30, 46, 11, 12, 9], [4, 5, 8], [], 4, s527.1, [.cell 8 true 4, .tmp 9], 9⟩
theorem ok527 : FnM Tryz.prog 527 fun527 := SC.okM s527 rfl (fn := Tryz.f527) (by kernel_rfl) (by kernel_rfl)
noncomputable def s529 : SC (Tryz.f529.body.getD .skip) := SC.mk' (by simp only [Tryz.f529, go_sem]; rfl)
noncomputable def fun529 : Fun := ⟨[0, 1, 19, 4], [], [], 2, s529.1, [.tmp 4], 1⟩
theorem ok529 : FnM Tryz.prog 529 fun529 := SC.okM s529 rfl (fn := Tryz.f529) (by kernel_rfl) (by kernel_rfl)
end Go.M
