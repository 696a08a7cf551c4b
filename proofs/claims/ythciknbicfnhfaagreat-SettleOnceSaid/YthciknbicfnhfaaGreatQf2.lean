/-
  The codes of functions, as the machine takes them.
  No condition: definitions and lemmas.
-/
import Derived.Test.YthciknbicfnhfaaGreatQty
set_option linter.all false
set_option maxRecDepth 100000
set_option maxHeartbeats 4000000
namespace Go.M
open Go Go.Proofs
open Go.Eng (SOp SOper SCode sizeP aggP zerosOf bytesP zeroVal stripCode stripOps stripOper strip stripParts kindsOf)

noncomputable def s3 : SC (Tryz.f3.body.getD .skip) := SC.mk' (by simp only [Tryz.f3, go_sem]; rfl)
noncomputable def fun3 : Fun := ⟨[0, 1, 15, 9, 5, 6, 8, 17, 7, 10, 13, 95, 12, 63, 94, 96, 111, 4], [5, 6, 8, 9, 13, 16], [78], 2, s3.1, [.tmp 4], 20⟩
theorem ok3 : FnM Tryz.prog 3 fun3 := SC.okM s3 rfl (fn := Tryz.f3) (by kernel_rfl) (by kernel_rfl)
noncomputable def s16 : SC (Tryz.f16.body.getD .skip) := SC.mk' (by simp only [Tryz.f16, go_sem]; rfl)
noncomputable def fun16 : Fun := ⟨[0, 1, 2], [1], [], 1, s16.1, [.tmp 2], 4⟩
theorem ok16 : FnM Tryz.prog 16 fun16 := SC.okM s16 rfl (fn := Tryz.f16) (by kernel_rfl) (by kernel_rfl)
noncomputable def s23 : SC (Tryz.f23.body.getD .skip) := SC.mk' (by simp only [Tryz.f23, go_sem]; rfl)
noncomputable def fun23 : Fun := ⟨[0, 1, 2, 4, 3, 6, 7, 26, 10, 11, 13, 17, 12, 27, 36, 53, 65, 8, 9], [3, 4, 6, 7], [], 3, s23.1, [.cell 6 true 11, .cell 7 true 63, .tmp 8, .tmp 9], 15⟩
theorem ok23 : FnM Tryz.prog 23 fun23 := SC.okM s23 rfl (fn := Tryz.f23) (by kernel_rfl) (by kernel_rfl)
noncomputable def s24 : SC (Tryz.f24.body.getD .skip) := SC.mk' (by simp only [Tryz.f24, go_sem]; rfl)
noncomputable def fun24 : Fun := ⟨[0, 1, 2, 9, 8, 19, 31, 34, 6, 7], [], [], 3, s24.1, [.tmp 6, .tmp 7], 0⟩
theorem ok24 : FnM Tryz.prog 24 fun24 := SC.okM s24 rfl (fn := Tryz.f24) (by kernel_rfl) (by kernel_rfl)
noncomputable def s30 : SC (Tryz.f30.body.getD .skip) := SC.mk' (by simp only [Tryz.f30, go_sem]; rfl)
noncomputable def fun30 : Fun := ⟨[0, 4, 1, 6, 7, 8, 3, 5, 19, 2], [1], [33], 1, s30.1, [.tmp 2], 1⟩
theorem ok30 : FnM Tryz.prog 30 fun30 := SC.okM s30 rfl (fn := Tryz.f30) (by kernel_rfl) (by kernel_rfl)
noncomputable def s31 : SC (Tryz.f31.body.getD .skip) := SC.mk' (by simp only [Tryz.f31, go_sem]; rfl)
noncomputable def fun31 : Fun := ⟨[0, 1, 2, 8, 6, 11, 4, 7, 10, 9, 30, 61, 5], [2, 4, 6, 7, 8], [66], 2, s31.1, [.cell 4 true 23, .tmp 5], 16⟩
theorem ok31 : FnM Tryz.prog 31 fun31 := SC.okM s31 rfl (fn := Tryz.f31) (by kernel_rfl) (by kernel_rfl)
noncomputable def s32 : SC (Tryz.f32.body.getD .skip) := SC.mk' (by simp only [Tryz.f32, go_sem]; rfl)
noncomputable def fun32 : Fun := ⟨[0, 1, 5, 2], [1], [], 1, s32.1, [.tmp 2], 3⟩
theorem ok32 : FnM Tryz.prog 32 fun32 := SC.okM s32 rfl (fn := Tryz.f32) (by kernel_rfl) (by kernel_rfl)
noncomputable def s36 : SC (Tryz.f36.body.getD .skip) := SC.mk' (by simp only [Tryz.f36, go_sem]; rfl)
noncomputable def fun36 : Fun := ⟨[0, 1, 6, 7, 4, 8, 2, 57, 78, 90, 3], [1, 2, 4, 6, 8], [], 1, s36.1, [.cell 2 true 11, .tmp 3], 2⟩
theorem ok36 : FnM Tryz.prog 36 fun36 := SC.okM s36 rfl (fn := Tryz.f36) (by kernel_rfl) (by kernel_rfl)
noncomputable def s50 : SC (Tryz.f50.body.getD .skip) := SC.mk' (by simp only [Tryz.f50, go_sem]; rfl)
noncomputable def fun50 : Fun := ⟨[0, 1, 2, 19, 4, 6, 7, 3, 40, 112, 11, 20, 30, 52, 62, 72, 82, 92, 102, 123, 8, 9], [3, 4, 6, 7], [], 3, s50.1, [.cell 6 true 11, .cell 7 true 63, .tmp 8, .tmp 9], 15⟩
theorem ok50 : FnM Tryz.prog 50 fun50 := SC.okM s50 rfl (fn := Tryz.f50) (by kernel_rfl) (by kernel_rfl)
noncomputable def s51 : SC (Tryz.f51.body.getD .skip) := SC.mk' (by simp only [Tryz.f51, go_sem]; rfl)
noncomputable def fun51 : Fun := ⟨[0, 1, 3, 5, 8, 4, 6, 7, 39, 44, 58, 64, 73, 78, 89, 2], [1], [], 1, s51.1, [.tmp 2], 2⟩
theorem ok51 : FnM Tryz.prog 51 fun51 := SC.okM s51 rfl (fn := Tryz.f51) (by kernel_rfl) (by kernel_rfl)
noncomputable def s62 : SC (Tryz.f62.body.getD .skip) := SC.mk' (by simp only [Tryz.f62, go_sem]; rfl)
noncomputable def fun62 : Fun := ⟨[0, 1, 6, 7, 4, 8, 19, 24, 46, 5], [4, 6], [], 2, s62.1, [.cell 4 true 3, .tmp 5], 0⟩
theorem ok62 : FnM Tryz.prog 62 fun62 := SC.okM s62 rfl (fn := Tryz.f62) (by kernel_rfl) (by kernel_rfl)
noncomputable def s66 : SC (Tryz.f66.body.getD .skip) := SC.mk' (by simp only [Tryz.f66, go_sem]; rfl)
noncomputable def fun66 : Fun := ⟨[0, 1, 2, 6], [], [], 3, s66.1, [.tmp 6], 0⟩
theorem ok66 : FnM Tryz.prog 66 fun66 := SC.okM s66 rfl (fn := Tryz.f66) (by kernel_rfl) (by kernel_rfl)
noncomputable def s69 : SC (Tryz.f69.body.getD .skip) := SC.mk' (by simp only [Tryz.f69, go_sem]; rfl)
noncomputable def fun69 : Fun := ⟨[0, 1, 2, 3, 7, 4, 6, 36], [3, 4, 6, 7], [26], 3, s69.1, [.cell 6 true 63], 1⟩
theorem ok69 : FnM Tryz.prog 69 fun69 := SC.okM s69 rfl (fn := Tryz.f69) (by kernel_rfl) (by kernel_rfl)
noncomputable def s71 : SC (Tryz.f71.body.getD .skip) := SC.mk' (by simp only [Tryz.f71, go_sem]; rfl)
noncomputable def fun71 : Fun := ⟨[0, 1, 4, 6, 7, 14, 22, 5], [4, 6], [], 2, s71.1, [.cell 4 true 26, .tmp 5], 2⟩
theorem ok71 : FnM Tryz.prog 71 fun71 := SC.okM s71 rfl (fn := Tryz.f71) (by kernel_rfl) (by kernel_rfl)
noncomputable def s73 : SC (Tryz.f73.body.getD .skip) := SC.mk' (by simp only [Tryz.f73, go_sem]; rfl)
noncomputable def fun73 : Fun := ⟨[0, 1, 2], [1, 2], [], 1, s73.1, [.cell 2 true 6], 0⟩
theorem ok73 : FnM Tryz.prog 73 fun73 := SC.okM s73 rfl (fn := Tryz.f73) (by kernel_rfl) (by kernel_rfl)
noncomputable def s74 : SC (Tryz.f74.body.getD .skip) := SC.mk' (by simp only [Tryz.f74, go_sem]; rfl)
noncomputable def fun74 : Fun := ⟨[0, 1, 2, 4], [2], [], 2, s74.1, [.tmp 4], 8⟩
theorem ok74 : FnM Tryz.prog 74 fun74 := SC.okM s74 rfl (fn := Tryz.f74) (by kernel_rfl) (by kernel_rfl)
noncomputable def s75 : SC (Tryz.f75.body.getD .skip) := SC.mk' (by simp only [Tryz.f75, go_sem]; rfl)
noncomputable def fun75 : Fun := ⟨[0, 1, 3, 6, 5, 2, 32], [1, 2, 3, 4, 6], [47], 1, s75.1, [.cell 2 true 10], 11⟩
theorem ok75 : FnM Tryz.prog 75 fun75 := SC.okM s75 rfl (fn := Tryz.f75) (by kernel_rfl) (by kernel_rfl)
noncomputable def s77 : SC (Tryz.f77.body.getD .skip) := SC.mk' (by simp only [Tryz.f77, go_sem]; rfl)
noncomputable def fun77 : Fun := ⟨[0, 1, 2, 3, 4, 29, 7, 27, 10, 24, 28, 30, 6, 51, 61, 67, 5], [2, 3, 4], [], 2, s77.1, [.cell 4 true 26, .tmp 5], 3⟩
theorem ok77 : FnM Tryz.prog 77 fun77 := SC.okM s77 rfl (fn := Tryz.f77) (by kernel_rfl) (by kernel_rfl)
noncomputable def s79 : SC (Tryz.f79.body.getD .skip) := SC.mk' (by simp only [Tryz.f79, go_sem]; rfl)
noncomputable def fun79 : Fun := ⟨[0, 4, 3, 8, 2], [], [], 1, s79.1, [.tmp 2], 0⟩
theorem ok79 : FnM Tryz.prog 79 fun79 := SC.okM s79 rfl (fn := Tryz.f79) (by kernel_rfl) (by kernel_rfl)
noncomputable def s82 : SC (Tryz.f82.body.getD .skip) := SC.mk' (by simp only [Tryz.f82, go_sem]; rfl)
noncomputable def fun82 : Fun := ⟨[0, 1, 2], [1], [], 1, s82.1, [.tmp 2], 5⟩
theorem ok82 : FnM Tryz.prog 82 fun82 := SC.okM s82 rfl (fn := Tryz.f82) (by kernel_rfl) (by kernel_rfl)
noncomputable def s116 : SC (Tryz.f116.body.getD .skip) := SC.mk' (by simp only [Tryz.f116, go_sem]; rfl)
noncomputable def fun116 : Fun := ⟨[0, 1, 3, 7, 11, 2], [1], [], 1, s116.1, [.tmp 2], 7⟩
theorem ok116 : FnM Tryz.prog 116 fun116 := SC.okM s116 rfl (fn := Tryz.f116) (by kernel_rfl) (by kernel_rfl)
noncomputable def s118 : SC (Tryz.f118.body.getD .skip) := SC.mk' (by simp only [Tryz.f118, go_sem]; rfl)
noncomputable def fun118 : Fun := ⟨[0, 1, 2, 3, 4, 8, 5, 10, 21, 29, 12, 9], [4, 5, 8, 11], [], 4, s118.1, [.cell 8 true 8, .tmp 9], 9⟩
theorem ok118 : FnM Tryz.prog 118 fun118 := SC.okM s118 rfl (fn := Tryz.f118) (by kernel_rfl) (by kernel_rfl)
noncomputable def s120 : SC (Tryz.f120.body.getD .skip) := SC.mk' (by simp only [Tryz.f120, go_sem]; rfl)
noncomputable def fun120 : Fun := ⟨[0, 1, 2, 3, 4, 5, 10, 6, 12, 13, 24, 27, 35, 56, 11], [5, 6, 10], [], 5, s120.1, [.cell 10 true 8, .tmp 11], 9⟩
theorem ok120 : FnM Tryz.prog 120 fun120 := SC.okM s120 rfl (fn := Tryz.f120) (by kernel_rfl) (by kernel_rfl)
noncomputable def s123 : SC (Tryz.f123.body.getD .skip) := SC.mk' (by simp only [Tryz.f123, go_sem]; rfl)
noncomputable def fun123 : Fun := ⟨[0, 4, 5, 3, 8, 12, 20, 24, 35, 39, 52, 2], [], [], 1, s123.1, [.tmp 2], 1⟩
theorem ok123 : FnM Tryz.prog 123 fun123 := SC.okM s123 rfl (fn := Tryz.f123) (by kernel_rfl) (by kernel_rfl)
noncomputable def s125 : SC (Tryz.f125.body.getD .skip) := SC.mk' (by simp only [Tryz.f125, go_sem]; rfl)
noncomputable def fun125 : Fun := ⟨[0, 4, 1, 3, 10, 2], [1], [], 1, s125.1, [.tmp 2], 0⟩
theorem ok125 : FnM Tryz.prog 125 fun125 := SC.okM s125 rfl (fn := Tryz.f125) (by kernel_rfl) (by kernel_rfl)
noncomputable def s127 : SC (Tryz.f127.body.getD .skip) := SC.mk' (by simp only [Tryz.f127, go_sem]; rfl)
noncomputable def fun127 : Fun := ⟨[0, 1, 2, 6, 7, 11, 15, 4, 5], [2], [], 2, s127.1, [.tmp 4, .tmp 5], 0⟩
theorem ok127 : FnM Tryz.prog 127 fun127 := SC.okM s127 rfl (fn := Tryz.f127) (by kernel_rfl) (by kernel_rfl)
noncomputable def s134 : SC (Tryz.f134.body.getD .skip) := SC.mk' (by simp only [Tryz.f134, go_sem]; rfl)
noncomputable def fun134 : Fun := ⟨[0, 1, 2, 4, 12, 6, 7, 11, 13, 3, 26, 8, 9, 10], [3, 4, 6, 7, 11, 12], [], 3, s134.1, [.cell 6 true 11, .cell 7 true 63, .tmp 8, .tmp 9, .tmp 10], 13⟩
theorem ok134 : FnM Tryz.prog 134 fun134 := SC.okM s134 rfl (fn := Tryz.f134) (by kernel_rfl) (by kernel_rfl)
noncomputable def s140 : SC (Tryz.f140.body.getD .skip) := SC.mk' (by simp only [Tryz.f140, go_sem]; rfl)
noncomputable def fun140 : Fun := ⟨[0, 1, 6, 5, 9, 4, 8, 10, 11, 13, 14, 2, 12, 7, 29, 43, 59, 65, 89, 106, 114, 143, 3], [1, 2, 4, 5, 6, 7, 11, 14], [48], 1, s140.1, [.cell 2 true 63, .tmp 3], 10⟩
theorem ok140 : FnM Tryz.prog 140 fun140 := SC.okM s140 rfl (fn := Tryz.f140) (by kernel_rfl) (by kernel_rfl)
noncomputable def s146 : SC (Tryz.f146.body.getD .skip) := SC.mk' (by simp only [Tryz.f146, go_sem]; rfl)
noncomputable def fun146 : Fun := ⟨[0, 1, 2, 4, 9, 5], [2, 4], [], 2, s146.1, [.cell 4 true 4, .tmp 5], 1⟩
theorem ok146 : FnM Tryz.prog 146 fun146 := SC.okM s146 rfl (fn := Tryz.f146) (by kernel_rfl) (by kernel_rfl)
noncomputable def s154 : SC (Tryz.f154.body.getD .skip) := SC.mk' (by simp only [Tryz.f154, go_sem]; rfl)
noncomputable def fun154 : Fun := ⟨[0, 1, 2, 3, 4], [2, 3, 4], [], 2, s154.1, [.cell 4 true 63], 4⟩
theorem ok154 : FnM Tryz.prog 154 fun154 := SC.okM s154 rfl (fn := Tryz.f154) (by kernel_rfl) (by kernel_rfl)
noncomputable def s166 : SC (Tryz.f166.body.getD .skip) := SC.mk' (by simp only [Tryz.f166, go_sem]; rfl)
noncomputable def fun166 : Fun := ⟨[0, 2], [], [], 1, s166.1, [.tmp 2], 1⟩
theorem ok166 : FnM Tryz.prog 166 fun166 := SC.okM s166 rfl (fn := Tryz.f166) (by kernel_rfl) (by kernel_rfl)
noncomputable def s172 : SC (Tryz.f172.body.getD .skip) := SC.mk' (by simp only [Tryz.f172, go_sem]; rfl)
noncomputable def fun172 : Fun := ⟨[0, 3, 4, 5, 6, 28, 44, 64, 95, 2], [5], [72], 1, s172.1, [.tmp 2], 2⟩
theorem ok172 : FnM Tryz.prog 172 fun172 := SC.okM s172 rfl (fn := Tryz.f172) (by kernel_rfl) (by kernel_rfl)
noncomputable def s179 : SC (Tryz.f179.body.getD .skip) := SC.mk' (by simp only [Tryz.f179, go_sem]; rfl)
noncomputable def fun179 : Fun := ⟨[0, 2], [], [], 1, s179.1, [.tmp 2], 1⟩
theorem ok179 : FnM Tryz.prog 179 fun179 := SC.okM s179 rfl (fn := Tryz.f179) (by kernel_rfl) (by kernel_rfl)
noncomputable def s181 : SC (Tryz.f181.body.getD .skip) := SC.mk' (by simp only [Tryz.f181, go_sem]; rfl)
noncomputable def fun181 : Fun := ⟨[0, 1, 2, 3, 9, 5, 4, 10, 8], [4, 5, 9], [], 4, s181.1, [.tmp 8], 7⟩
theorem ok181 : FnM Tryz.prog 181 fun181 := SC.okM s181 rfl (fn := Tryz.f181) (by kernel_rfl) (by kernel_rfl)
noncomputable def s187 : SC (Tryz.f187.body.getD .skip) := SC.mk' (by simp only [Tryz.f187, go_sem]; rfl)
noncomputable def fun187 : Fun := ⟨[0, 2], [], [], 1, s187.1, [.tmp 2], 1⟩
theorem ok187 : FnM Tryz.prog 187 fun187 := SC.okM s187 rfl (fn := Tryz.f187) (by kernel_rfl) (by kernel_rfl)
noncomputable def s191 : SC (Tryz.f191.body.getD .skip) := SC.mk' (by simp only [Tryz.f191, go_sem]; rfl)
noncomputable def fun191 : Fun := ⟨[0, 1, 2, 4, 5, 13, 3], [1, 2, 4], [], 1, s191.1, [.cell 2 true 26, .tmp 3], 1⟩
theorem ok191 : FnM Tryz.prog 191 fun191 := SC.okM s191 rfl (fn := Tryz.f191) (by kernel_rfl) (by kernel_rfl)
noncomputable def s192 : SC (Tryz.f192.body.getD .skip) := SC.mk' (by simp only [Tryz.f192, go_sem]; rfl)
noncomputable def fun192 : Fun := ⟨[0, 1, 2], [1], [], 1, s192.1, [.tmp 2], 0⟩
theorem ok192 : FnM Tryz.prog 192 fun192 := SC.okM s192 rfl (fn := Tryz.f192) (by kernel_rfl) (by kernel_rfl)
noncomputable def s193 : SC (Tryz.f193.body.getD .skip) := SC.mk' (by simp only [Tryz.f193, go_sem]; rfl)
noncomputable def fun193 : Fun := ⟨[0, 1, 5, 9, 18, 4], [], [], 2, s193.1, [.tmp 4], 0⟩
theorem ok193 : FnM Tryz.prog 193 fun193 := SC.okM s193 rfl (fn := Tryz.f193) (by kernel_rfl) (by kernel_rfl)
noncomputable def s197 : SC (Tryz.f197.body.getD .skip) := SC.mk' (by simp only [Tryz.f197, go_sem]; rfl)
noncomputable def fun197 : Fun := ⟨[0, 1, 5, 2, 4], [2, 4, 5], [], 2, s197.1, [.cell 4 true 10], 0⟩
theorem ok197 : FnM Tryz.prog 197 fun197 := SC.okM s197 rfl (fn := Tryz.f197) (by kernel_rfl) (by kernel_rfl)
noncomputable def s201 : SC (Tryz.f201.body.getD .skip) := SC.mk' (by simp only [Tryz.f201, go_sem]; rfl)
noncomputable def fun201 : Fun := ⟨[0, 1, 2, 25, 33, 6], [], [], 3, s201.1, [.tmp 6], 0⟩
theorem ok201 : FnM Tryz.prog 201 fun201 := SC.okM s201 rfl (fn := Tryz.f201) (by kernel_rfl) (by kernel_rfl)
noncomputable def s203 : SC (Tryz.f203.body.getD .skip) := SC.mk' (by simp only [Tryz.f203, go_sem]; rfl)
noncomputable def fun203 : Fun := ⟨[0, 1, 2, 18, 26, 4], [2], [], 2, s203.1, [.tmp 4], 2⟩
theorem ok203 : FnM Tryz.prog 203 fun203 := SC.okM s203 rfl (fn := Tryz.f203) (by kernel_rfl) (by kernel_rfl)
noncomputable def s205 : SC (Tryz.f205.body.getD .skip) := SC.mk' (by simp only [Tryz.f205, go_sem]; rfl)
noncomputable def fun205 : Fun := ⟨[0, 1, 5, 6, 2, 7, 9, 3, 4], [1, 2], [], 1, s205.1, [.cell 2 true 8, .tmp 3, .tmp 4], 9⟩
theorem ok205 : FnM Tryz.prog 205 fun205 := SC.okM s205 rfl (fn := Tryz.f205) (by kernel_rfl) (by kernel_rfl)
noncomputable def s209 : SC (Tryz.f209.body.getD .skip) := SC.mk' (by simp only [Tryz.f209, go_sem]; rfl)
noncomputable def fun209 : Fun := ⟨[0, 1, 2, 4], [2], [], 2, s209.1, [.tmp 4], 0⟩
theorem ok209 : FnM Tryz.prog 209 fun209 := SC.okM s209 rfl (fn := Tryz.f209) (by kernel_rfl) (by kernel_rfl)
noncomputable def s241 : SC (Tryz.f241.body.getD .skip) := SC.mk' (by simp only [Tryz.f241, go_sem]; rfl)
noncomputable def fun241 : Fun := ⟨[0, 2], [], [], 1, s241.1, [.tmp 2], 0⟩
theorem ok241 : FnM Tryz.prog 241 fun241 := SC.okM s241 rfl (fn := Tryz.f241) (by kernel_rfl) (by kernel_rfl)
noncomputable def s243 : SC (Tryz.f243.body.getD .skip) := SC.mk' (by simp only [Tryz.f243, go_sem]; rfl)
noncomputable def fun243 : Fun := ⟨[0, 1, 2, 3, 4, 7, 8, 30, 10, 18, 29, 31, 12, 35, 42, 9], [4, 7, 8], [], 4, s243.1, [.cell 8 true 11, .tmp 9], 3⟩
theorem ok243 : FnM Tryz.prog 243 fun243 := SC.okM s243 rfl (fn := Tryz.f243) (by kernel_rfl) (by kernel_rfl)
noncomputable def s246 : SC (Tryz.f246.body.getD .skip) := SC.mk' (by simp only [Tryz.f246, go_sem]; rfl)
noncomputable def fun246 : Fun := ⟨[0, 1, 2, 4, 9, 5], [2, 4], [], 2, s246.1, [.cell 4 true 8, .tmp 5], 1⟩
theorem ok246 : FnM Tryz.prog 246 fun246 := SC.okM s246 rfl (fn := Tryz.f246) (by kernel_rfl) (by kernel_rfl)
noncomputable def s253 : SC (Tryz.f253.body.getD .skip) := SC.mk' (by simp only [Tryz.f253, go_sem]; rfl)
noncomputable def fun253 : Fun := ⟨[0, 1, 2, 3, 8, 11, 4, 5, 10, 12, 18, 27, 43, 9], [4, 5, 8, 11], [], 4, s253.1, [.cell 8 true 4, .tmp 9], 10⟩
theorem ok253 : FnM Tryz.prog 253 fun253 := SC.okM s253 rfl (fn := Tryz.f253) (by kernel_rfl) (by kernel_rfl)
noncomputable def s254 : SC (Tryz.f254.body.getD .skip) := SC.mk' (by simp only [Tryz.f254, go_sem]; rfl)
noncomputable def fun254 : Fun := ⟨[0, 1, 3, 8, 4, 61, 5, 6, 59, 9, 40, 45, 56, 60, 62, 68, 81, 2], [1, 8], [], 1, s254.1, [.tmp 2], 2⟩
theorem ok254 : FnM Tryz.prog 254 fun254 := SC.okM s254 rfl (fn := Tryz.f254) (by kernel_rfl) (by kernel_rfl)
noncomputable def s257 : SC (Tryz.f257.body.getD .skip) := SC.mk' (by simp only [Tryz.f257, go_sem]; rfl)
noncomputable def fun257 : Fun := ⟨[0, 1, 4], [], [], 2, s257.1, [.tmp 4], 0⟩
theorem ok257 : FnM Tryz.prog 257 fun257 := SC.okM s257 rfl (fn := Tryz.f257) (by kernel_rfl) (by kernel_rfl)
noncomputable def s258 : SC (Tryz.f258.body.getD .skip) := SC.mk' (by simp only [Tryz.f258, go_sem]; rfl)
noncomputable def fun258 : Fun := ⟨[0, 13, 1, 3, 11, 5, 12, 14, 2], [1, 5], [], 1, s258.1, [.tmp 2], 4⟩
theorem ok258 : FnM Tryz.prog 258 fun258 := SC.okM s258 rfl (fn := Tryz.f258) (by kernel_rfl) (by kernel_rfl)
noncomputable def s259 : SC (Tryz.f259.body.getD .skip) := SC.mk' (by simp only [Tryz.f259, go_sem]; rfl)
noncomputable def fun259 : Fun := ⟨[0, 1, 4], [], [], 2, s259.1, [.tmp 4], 1⟩
theorem ok259 : FnM Tryz.prog 259 fun259 := SC.okM s259 rfl (fn := Tryz.f259) (by kernel_rfl) (by kernel_rfl)
noncomputable def s260 : SC (Tryz.f260.body.getD .skip) := SC.mk' (by simp only [Tryz.f260, go_sem]; rfl)
noncomputable def fun260 : Fun := ⟨[0, 1, 2, 4, 10, 6, 7, 19, 5], [2, 4], [], 2, s260.1, [.cell 4 true 8, .tmp 5], 6⟩
theorem ok260 : FnM Tryz.prog 260 fun260 := SC.okM s260 rfl (fn := Tryz.f260) (by kernel_rfl) (by kernel_rfl)
noncomputable def s261 : SC (Tryz.f261.body.getD .skip) := SC.mk' (by simp only [Tryz.f261, go_sem]; rfl)
noncomputable def fun261 : Fun := ⟨[0, 1, 2, 4], [2], [], 2, s261.1, [.tmp 4], 0⟩
theorem ok261 : FnM Tryz.prog 261 fun261 := SC.okM s261 rfl (fn := Tryz.f261) (by kernel_rfl) (by kernel_rfl)
noncomputable def s263 : SC (Tryz.f263.body.getD .skip) := SC.mk' (by simp only [Tryz.f263, go_sem]; rfl)
noncomputable def fun263 : Fun := ⟨[0, 1, 2, 3, 5, 6, 10, 15, 17, 24, 4], [2, 3], [], 2, s263.1, [.tmp 4], 3⟩
theorem ok263 : FnM Tryz.prog 263 fun263 := SC.okM s263 rfl (fn := Tryz.f263) (by kernel_rfl) (by kernel_rfl)
noncomputable def s264 : SC (Tryz.f264.body.getD .skip) := SC.mk' (by simp only [Tryz.f264, go_sem]; rfl)
noncomputable def fun264 : Fun := ⟨[0, 1, 2], [1, 2], [], 1, s264.1, [.cell 2 true 3], 1⟩
theorem ok264 : FnM Tryz.prog 264 fun264 := SC.okM s264 rfl (fn := Tryz.f264) (by kernel_rfl) (by kernel_rfl)
noncomputable def s268 : SC (Tryz.f268.body.getD .skip) := SC.mk' (by simp only [Tryz.f268, go_sem]; rfl)
noncomputable def fun268 : Fun := ⟨[0, 4, 2], [], [], 1, s268.1, [.tmp 2], 0⟩
theorem ok268 : FnM Tryz.prog 268 fun268 := SC.okM s268 rfl (fn := Tryz.f268) (by kernel_rfl) (by kernel_rfl)
noncomputable def s286 : SC (Tryz.f286.body.getD .skip) := SC.mk' (by simp only [Tryz.f286, go_sem]; rfl)
noncomputable def fun286 : Fun := ⟨[0, 1, 2, 4], [2], [], 2, s286.1, [.tmp 4], 0⟩
theorem ok286 : FnM Tryz.prog 286 fun286 := SC.okM s286 rfl (fn := Tryz.f286) (by kernel_rfl) (by kernel_rfl)
noncomputable def s288 : SC (Tryz.f288.body.getD .skip) := SC.mk' (by simp only [Tryz.f288, go_sem]; rfl)
noncomputable def fun288 : Fun := ⟨[0, 1, 2, 4], [2, 4], [], 2, s288.1, [.cell 4 true 26], 0⟩
theorem ok288 : FnM Tryz.prog 288 fun288 := SC.okM s288 rfl (fn := Tryz.f288) (by kernel_rfl) (by kernel_rfl)
noncomputable def s292 : SC (Tryz.f292.body.getD .skip) := SC.mk' (by simp only [Tryz.f292, go_sem]; rfl)
noncomputable def fun292 : Fun := ⟨[0, 1, 2, 4, 5, 8, 9, 7, 13, 23, 6], [2, 4, 5], [31, 32], 2, s292.1, [.cell 4 true 3, .cell 5 true 7, .tmp 6], 3⟩
theorem ok292 : FnM Tryz.prog 292 fun292 := SC.okM s292 rfl (fn := Tryz.f292) (by kernel_rfl) (by kernel_rfl)
noncomputable def s293 : SC (Tryz.f293.body.getD .skip) := SC.mk' (by simp only [Tryz.f293, go_sem]; rfl)
noncomputable def fun293 : Fun := ⟨[0, 2], [], [], 1, s293.1, [.tmp 2], 0⟩
theorem ok293 : FnM Tryz.prog 293 fun293 := SC.okM s293 rfl (fn := Tryz.f293) (by kernel_rfl) (by kernel_rfl)
noncomputable def s301 : SC (Tryz.f301.body.getD .skip) := SC.mk' (by simp only [Tryz.f301, go_sem]; rfl)
noncomputable def fun301 : Fun := ⟨[0, 1, 2, 4, 3, 6, 7, 9, 20, 37, 54, 58, 8], [3, 4, 6, 7], [], 3, s301.1, [.cell 6 true 11, .cell 7 true 5, .tmp 8], 3⟩
theorem ok301 : FnM Tryz.prog 301 fun301 := SC.okM s301 rfl (fn := Tryz.f301) (by kernel_rfl) (by kernel_rfl)
noncomputable def s305 : SC (Tryz.f305.body.getD .skip) := SC.mk' (by simp only [Tryz.f305, go_sem]; rfl)
noncomputable def fun305 : Fun := ⟨[0, 1, 2, 3, 7, 17, 6], [3], [], 3, s305.1, [.tmp 6], 2⟩
theorem ok305 : FnM Tryz.prog 305 fun305 := SC.okM s305 rfl (fn := Tryz.f305) (by kernel_rfl) (by kernel_rfl)
noncomputable def s306 : SC (Tryz.f306.body.getD .skip) := SC.mk' (by simp only [Tryz.f306, go_sem]; rfl)
noncomputable def fun306 : Fun := ⟨[0, 1, 2, 6], [], [], 3, s306.1, [.tmp 6], 0⟩
theorem ok306 : FnM Tryz.prog 306 fun306 := SC.okM s306 rfl (fn := Tryz.f306) (by kernel_rfl) (by kernel_rfl)
noncomputable def s307 : SC (Tryz.f307.body.getD .skip) := SC.mk' (by simp only [Tryz.f307, go_sem]; rfl)
noncomputable def fun307 : Fun := ⟨[0, 1, 2, 4], [2], [], 2, s307.1, [.tmp 4], 0⟩
theorem ok307 : FnM Tryz.prog 307 fun307 := SC.okM s307 rfl (fn := Tryz.f307) (by kernel_rfl) (by kernel_rfl)
noncomputable def s317 : SC (Tryz.f317.body.getD .skip) := SC.mk' (by simp only [Tryz.f317, go_sem]; rfl)
noncomputable def fun317 : Fun := ⟨[0, 1, 7, 3, 6, 8, 4, 2], [1], [], 1, s317.1, [.tmp 2], 1⟩
theorem ok317 : FnM Tryz.prog 317 fun317 := SC.okM s317 rfl (fn := Tryz.f317) (by kernel_rfl) (by kernel_rfl)
noncomputable def s319 : SC (Tryz.f319.body.getD .skip) := SC.mk' (by simp only [Tryz.f319, go_sem]; rfl)
noncomputable def fun319 : Fun := ⟨[0, 13, 5, 11, 4, 8, 10, 12, 14, 3, 23, 28, 36, 2], [4], [], 1, s319.1, [.tmp 2], 4⟩
theorem ok319 : FnM Tryz.prog 319 fun319 := SC.okM s319 rfl (fn := Tryz.f319) (by kernel_rfl) (by kernel_rfl)
noncomputable def s320 : SC (Tryz.f320.body.getD .skip) := SC.mk' (by simp only [Tryz.f320, go_sem]; rfl)
noncomputable def fun320 : Fun := ⟨[0, 1, 15, 4, 13, 11, 14, 16, 28, 2], [1, 4], [], 1, s320.1, [.tmp 2], 2⟩
theorem ok320 : FnM Tryz.prog 320 fun320 := SC.okM s320 rfl (fn := Tryz.f320) (by kernel_rfl) (by kernel_rfl)
noncomputable def s321 : SC (Tryz.f321.body.getD .skip) := SC.mk' (by simp only [Tryz.f321, go_sem]; rfl)
noncomputable def fun321 : Fun := ⟨[0, 1, 8, 5, 7, 9, 16, 4], [], [], 2, s321.1, [.tmp 4], 0⟩
theorem ok321 : FnM Tryz.prog 321 fun321 := SC.okM s321 rfl (fn := Tryz.f321) (by kernel_rfl) (by kernel_rfl)
noncomputable def s324 : SC (Tryz.f324.body.getD .skip) := SC.mk' (by simp only [Tryz.f324, go_sem]; rfl)
noncomputable def fun324 : Fun := ⟨[0, 1, 2, 9, 11, 8, 10, 17, 31, 6, 7], [], [], 3, s324.1, [.tmp 6, .tmp 7], 3⟩
theorem ok324 : FnM Tryz.prog 324 fun324 := SC.okM s324 rfl (fn := Tryz.f324) (by kernel_rfl) (by kernel_rfl)
noncomputable def s331 : SC (Tryz.f331.body.getD .skip) := SC.mk' (by simp only [Tryz.f331, go_sem]; rfl)
noncomputable def fun331 : Fun := ⟨[0, 1, 2, 4, 6, 7, 15, 3, 9, 11, 56, 12, 13, 16, 10, 32, 36, 47, 49, 73, 90, 94, 101, 109, 8], [3, 4, 6, 7], [27, 69], 3, s331.1, [.cell 6 true 11, .cell 7 true 5, .tmp 8], 2⟩
theorem ok331 : FnM Tryz.prog 331 fun331 := SC.okM s331 rfl (fn := Tryz.f331) (by kernel_rfl) (by kernel_rfl)
noncomputable def s333 : SC (Tryz.f333.body.getD .skip) := SC.mk' (by simp only [Tryz.f333, go_sem]; rfl)
noncomputable def fun333 : Fun := ⟨[0, 1, 2, 4, 3, 14, 6, 7, 9, 13, 10, 11, 27, 12, 58, 93, 8], [3, 4, 6, 7, 11, 13], [36, 66], 3, s333.1, [.cell 6 true 11, .cell 7 true 26, .tmp 8], 3⟩
theorem ok333 : FnM Tryz.prog 333 fun333 := SC.okM s333 rfl (fn := Tryz.f333) (by kernel_rfl) (by kernel_rfl)
noncomputable def s335 : SC (Tryz.f335.body.getD .skip) := SC.mk' (by simp only [Tryz.f335, go_sem]; rfl)
noncomputable def fun335 : Fun := ⟨[0, 1, 2, 4, 23, 6, 8, 3, 10, 25, 30, 37, 42, 47, 7], [3, 4, 6], [], 3, s335.1, [.cell 6 true 4, .tmp 7], 1⟩
theorem ok335 : FnM Tryz.prog 335 fun335 := SC.okM s335 rfl (fn := Tryz.f335) (by kernel_rfl) (by kernel_rfl)
noncomputable def s341 : SC (Tryz.f341.body.getD .skip) := SC.mk' (by simp only [Tryz.f341, go_sem]; rfl)
noncomputable def fun341 : Fun := ⟨[0, 1, 2, 3, 6], [3], [], 3, s341.1, [.tmp 6], 1⟩
theorem ok341 : FnM Tryz.prog 341 fun341 := SC.okM s341 rfl (fn := Tryz.f341) (by kernel_rfl) (by kernel_rfl)
noncomputable def s342 : SC (Tryz.f342.body.getD .skip) := SC.mk' (by simp only [Tryz.f342, go_sem]; rfl)
noncomputable def fun342 : Fun := ⟨[0, 1, 2, 4, 7, 12, 17, 3], [1, 2], [], 1, s342.1, [.cell 2 true 7, .tmp 3], 2⟩
theorem ok342 : FnM Tryz.prog 342 fun342 := SC.okM s342 rfl (fn := Tryz.f342) (by kernel_rfl) (by kernel_rfl)
noncomputable def s346 : SC (Tryz.f346.body.getD .skip) := SC.mk' (by simp only [Tryz.f346, go_sem]; rfl)
noncomputable def fun346 : Fun := ⟨[0, 1, 3, 6, 10, 12, 16, 20, 4, 5], [3], [27], 2, s346.1, [.tmp 4, .tmp 5], 2⟩
theorem ok346 : FnM Tryz.prog 346 fun346 := SC.okM s346 rfl (fn := Tryz.f346) (by kernel_rfl) (by kernel_rfl)
noncomputable def s347 : SC (Tryz.f347.body.getD .skip) := SC.mk' (by simp only [Tryz.f347, go_sem]; rfl)
noncomputable def fun347 : Fun := ⟨[0, 1, 2, 4, 5, 13, 3], [1, 2, 4], [], 1, s347.1, [.cell 2 true 26, .tmp 3], 1⟩
theorem ok347 : FnM Tryz.prog 347 fun347 := SC.okM s347 rfl (fn := Tryz.f347) (by kernel_rfl) (by kernel_rfl)
noncomputable def s348 : SC (Tryz.f348.body.getD .skip) := SC.mk' (by simp only [Tryz.f348, go_sem]; rfl)
noncomputable def fun348 : Fun := ⟨[0, 1, 4], [], [8], 2, s348.1, [.tmp 4], 0⟩
theorem ok348 : FnM Tryz.prog 348 fun348 := SC.okM s348 rfl (fn := Tryz.f348) (by kernel_rfl) (by kernel_rfl)
noncomputable def s357 : SC (Tryz.f357.body.getD .skip) := SC.mk' (by simp only [Tryz.f357, go_sem]; rfl)
noncomputable def fun357 : Fun := ⟨[0, 1, 2, 6, 3, 8, 9, 16, 25, 7], [3, 6], [], 3, s357.1, [.cell 6 true 11, .tmp 7], 2⟩
theorem ok357 : FnM Tryz.prog 357 fun357 := SC.okM s357 rfl (fn := Tryz.f357) (by kernel_rfl) (by kernel_rfl)
noncomputable def s367 : SC (Tryz.f367.body.getD .skip) := SC.mk' (by simp only [Tryz.f367, go_sem]; rfl)
noncomputable def fun367 : Fun := ⟨[0, 1, 3, 4], [3], [], 2, s367.1, [.tmp 4], 1⟩
theorem ok367 : FnM Tryz.prog 367 fun367 := SC.okM s367 rfl (fn := Tryz.f367) (by kernel_rfl) (by kernel_rfl)
noncomputable def s369 : SC (Tryz.f369.body.getD .skip) := SC.mk' (by simp only [Tryz.f369, go_sem]; rfl)
noncomputable def fun369 : Fun := ⟨[0, 1, 8, 5, 7, 9, 16, 4], [], [], 2, s369.1, [.tmp 4], 1⟩
theorem ok369 : FnM Tryz.prog 369 fun369 := SC.okM s369 rfl (fn := Tryz.f369) (by kernel_rfl) (by kernel_rfl)
noncomputable def s371 : SC (Tryz.f371.body.getD .skip) := SC.mk' (by simp only [Tryz.f371, go_sem]; rfl)
noncomputable def fun371 : Fun := ⟨[0, 2], [], [], 1, s371.1, [.tmp 2], 0⟩
theorem ok371 : FnM Tryz.prog 371 fun371 := SC.okM s371 rfl (fn := Tryz.f371) (by kernel_rfl) (by kernel_rfl)
noncomputable def s375 : SC (Tryz.f375.body.getD .skip) := SC.mk' (by simp only [Tryz.f375, go_sem]; rfl)
noncomputable def fun375 : Fun := ⟨[0, 1, 2, 3, 6, 22, 27, 7, 8], [3, 6], [], 3, s375.1, [.cell 6 true 11, .tmp 7, .tmp 8], 1⟩
theorem ok375 : FnM Tryz.prog 375 fun375 := SC.okM s375 rfl (fn := Tryz.f375) (by kernel_rfl) (by kernel_rfl)
noncomputable def s385 : SC (Tryz.f385.body.getD .skip) := SC.mk' (by simp only [Tryz.f385, go_sem]; rfl)
noncomputable def fun385 : Fun := ⟨[0, 1, 5, 2, 11, 21, 4], [2], [], 2, s385.1, [.tmp 4], 0⟩
theorem ok385 : FnM Tryz.prog 385 fun385 := SC.okM s385 rfl (fn := Tryz.f385) (by kernel_rfl) (by kernel_rfl)
noncomputable def s395 : SC (Tryz.f395.body.getD .skip) := SC.mk' (by simp only [Tryz.f395, go_sem]; rfl)
noncomputable def fun395 : Fun := ⟨[0, 1, 2, 3, 6, 11], [3, 6], [], 3, s395.1, [.cell 6 true 11], 1⟩
theorem ok395 : FnM Tryz.prog 395 fun395 := SC.okM s395 rfl (fn := Tryz.f395) (by kernel_rfl) (by kernel_rfl)
noncomputable def s399 : SC (Tryz.f399.body.getD .skip) := SC.mk' (by simp only [Tryz.f399, go_sem]; rfl)
noncomputable def fun399 : Fun := ⟨[0, 2], [], [], 1, s399.1, [.tmp 2], 0⟩
theorem ok399 : FnM Tryz.prog 399 fun399 := SC.okM s399 rfl (fn := Tryz.f399) (by kernel_rfl) (by kernel_rfl)
noncomputable def s402 : SC (Tryz.f402.body.getD .skip) := SC.mk' (by simp only [Tryz.f402, go_sem]; rfl)
noncomputable def fun402 : Fun := ⟨[0, 1, 2, 3, 15, 23, 6], [3], [], 3, s402.1, [.tmp 6], 1⟩
theorem ok402 : FnM Tryz.prog 402 fun402 := SC.okM s402 rfl (fn := Tryz.f402) (by kernel_rfl) (by kernel_rfl)
noncomputable def s403 : SC (Tryz.f403.body.getD .skip) := SC.mk' (by simp only [Tryz.f403, go_sem]; rfl)
noncomputable def fun403 : Fun := ⟨[0, 1, 2, 12, 3, 10, 13, 8, 9, 11, 26, 34, 52, 58, 67, 6, 7], [3], [], 3, s403.1, [.tmp 6, .tmp 7], 8⟩
theorem ok403 : FnM Tryz.prog 403 fun403 := SC.okM s403 rfl (fn := Tryz.f403) (by kernel_rfl) (by kernel_rfl)
end Go.M
