/-
  The codes of functions, as the machine takes them.
  No condition: definitions and lemmas.
-/
import Derived.Test.YthciknbicfnhfaaGreatQty
set_option linter.all false
set_option maxRecDepth 100000
set_option maxHeartbeats 4000000
namespace Go.M
open Go Go.Proofs
open Go.Eng (SOp SOper SCode sizeP aggP zerosOf bytesP zeroVal stripCode stripOps stripOper strip stripParts kindsOf)

noncomputable def s7 : SC (Tryz.f7.body.getD .skip) := SC.mk' (by simp only [Tryz.f7, go_sem]; rfl)
noncomputable def fun7 : Fun := ⟨[0, 1, 2, 6], [6], [], 3, s7.1, [.cell 6 true 8], 0⟩
theorem ok7 : FnM Tryz.prog 7 fun7 := SC.okM s7 rfl (fn := Tryz.f7) (by kernel_rfl) (by kernel_rfl)
noncomputable def s14 : SC (Tryz.f14.body.getD .skip) := SC.mk' (by simp only [Tryz.f14, go_sem]; rfl)
noncomputable def fun14 : Fun := ⟨[0, 1, 2, 4, 7, 8, 9, 3, 19, 36, 5, 6], [2, 3, 4, 8], [41], 2, s14.1, [.cell 4 true 23, .tmp 5, .tmp 6], 4⟩
theorem ok14 : FnM Tryz.prog 14 fun14 := SC.okM s14 rfl (fn := Tryz.f14) (by kernel_rfl) (by kernel_rfl)
noncomputable def s15 : SC (Tryz.f15.body.getD .skip) := SC.mk' (by simp only [Tryz.f15, go_sem]; rfl)
noncomputable def fun15 : Fun := ⟨[0, 1, 6, 8, 2, 5, 7, 9, 10, 21, 32, 45, 3, 4], [1, 2], [41], 1, s15.1, [.cell 2 true 23, .tmp 3, .tmp 4], 17⟩
theorem ok15 : FnM Tryz.prog 15 fun15 := SC.okM s15 rfl (fn := Tryz.f15) (by kernel_rfl) (by kernel_rfl)
noncomputable def s16 : SC (Tryz.f16.body.getD .skip) := SC.mk' (by simp only [Tryz.f16, go_sem]; rfl)
noncomputable def fun16 : Fun := ⟨[0, 1, 2], [1], [], 1, s16.1, [.tmp 2], 4⟩
theorem ok16 : FnM Tryz.prog 16 fun16 := SC.okM s16 rfl (fn := Tryz.f16) (by kernel_rfl) (by kernel_rfl)
noncomputable def s24 : SC (Tryz.f24.body.getD .skip) := SC.mk' (by simp only [Tryz.f24, go_sem]; rfl)
noncomputable def fun24 : Fun := ⟨[0, 1, 2, 9, 8, 19, 31, 34, 6, 7], [], [], 3, s24.1, [.tmp 6, .tmp 7], 0⟩
theorem ok24 : FnM Tryz.prog 24 fun24 := SC.okM s24 rfl (fn := Tryz.f24) (by kernel_rfl) (by kernel_rfl)
noncomputable def s25 : SC (Tryz.f25.body.getD .skip) := SC.mk' (by simp only [Tryz.f25, go_sem]; rfl)
noncomputable def fun25 : Fun := ⟨[0, 1, 4, 42, 2, 3], [1], [], 1, s25.1, [.tmp 2, .tmp 3], 2⟩
theorem ok25 : FnM Tryz.prog 25 fun25 := SC.okM s25 rfl (fn := Tryz.f25) (by kernel_rfl) (by kernel_rfl)
noncomputable def s36 : SC (Tryz.f36.body.getD .skip) := SC.mk' (by simp only [Tryz.f36, go_sem]; rfl)
noncomputable def fun36 : Fun := ⟨[0, 1, 6, 7, 4, 8, 2, 57, 78, 90, 3], [1, 2, 4, 6, 8], [], 1, s36.1, [.cell 2 true 11, .tmp 3], 2⟩
theorem ok36 : FnM Tryz.prog 36 fun36 := SC.okM s36 rfl (fn := Tryz.f36) (by kernel_rfl) (by kernel_rfl)
noncomputable def s44 : SC (Tryz.f44.body.getD .skip) := SC.mk' (by simp only [Tryz.f44, go_sem]; rfl)
noncomputable def fun44 : Fun := ⟨[0, 1, 2, 4, 3, 6, 7, 11, 12, 34, 35, 47, 13, 10, 28, 42, 48, 61, 14, 71, 84, 8, 9], [3, 4, 6, 7, 12, 13], [], 3, s44.1, [.cell 6 true 11, .cell 7 true 63, .tmp 8, .tmp 9], 14⟩
theorem ok44 : FnM Tryz.prog 44 fun44 := SC.okM s44 rfl (fn := Tryz.f44) (by kernel_rfl) (by kernel_rfl)
noncomputable def s47 : SC (Tryz.f47.body.getD .skip) := SC.mk' (by simp only [Tryz.f47, go_sem]; rfl)
noncomputable def fun47 : Fun := ⟨[0, 1, 5, 2, 10, 20, 4], [2], [], 2, s47.1, [.tmp 4], 0⟩
theorem ok47 : FnM Tryz.prog 47 fun47 := SC.okM s47 rfl (fn := Tryz.f47) (by kernel_rfl) (by kernel_rfl)
noncomputable def s49 : SC (Tryz.f49.body.getD .skip) := SC.mk' (by simp only [Tryz.f49, go_sem]; rfl)
noncomputable def fun49 : Fun := ⟨[0, 4, 1, 10, 5, 2], [1], [], 1, s49.1, [.tmp 2], 0⟩
theorem ok49 : FnM Tryz.prog 49 fun49 := SC.okM s49 rfl (fn := Tryz.f49) (by kernel_rfl) (by kernel_rfl)
noncomputable def s51 : SC (Tryz.f51.body.getD .skip) := SC.mk' (by simp only [Tryz.f51, go_sem]; rfl)
noncomputable def fun51 : Fun := ⟨[0, 1, 3, 5, 8, 4, 6, 7, 39, 44, 58, 64, 73, 78, 89, 2], [1], [], 1, s51.1, [.tmp 2], 2⟩
theorem ok51 : FnM Tryz.prog 51 fun51 := SC.okM s51 rfl (fn := Tryz.f51) (by kernel_rfl) (by kernel_rfl)
noncomputable def s52 : SC (Tryz.f52.body.getD .skip) := SC.mk' (by simp only [Tryz.f52, go_sem]; rfl)
noncomputable def fun52 : Fun := ⟨[0, 1, 4, 3, 8, 2], [1], [], 1, s52.1, [.tmp 2], 0⟩
theorem ok52 : FnM Tryz.prog 52 fun52 := SC.okM s52 rfl (fn := Tryz.f52) (by kernel_rfl) (by kernel_rfl)
noncomputable def s61 : SC (Tryz.f61.body.getD .skip) := SC.mk' (by simp only [Tryz.f61, go_sem]; rfl)
noncomputable def fun61 : Fun := ⟨[0, 1, 2, 6], [], [], 3, s61.1, [.tmp 6], 0⟩
theorem ok61 : FnM Tryz.prog 61 fun61 := SC.okM s61 rfl (fn := Tryz.f61) (by kernel_rfl) (by kernel_rfl)
noncomputable def s64 : SC (Tryz.f64.body.getD .skip) := SC.mk' (by simp only [Tryz.f64, go_sem]; rfl)
noncomputable def fun64 : Fun := ⟨[0, 1, 2, 6, 8, 9, 16, 22, 7], [6, 8], [], 3, s64.1, [.cell 6 true 8, .tmp 7], 1⟩
theorem ok64 : FnM Tryz.prog 64 fun64 := SC.okM s64 rfl (fn := Tryz.f64) (by kernel_rfl) (by kernel_rfl)
noncomputable def s69 : SC (Tryz.f69.body.getD .skip) := SC.mk' (by simp only [Tryz.f69, go_sem]; rfl)
noncomputable def fun69 : Fun := ⟨[0, 1, 2, 3, 7, 4, 6, 36], [3, 4, 6, 7], [26], 3, s69.1, [.cell 6 true 63], 1⟩
theorem ok69 : FnM Tryz.prog 69 fun69 := SC.okM s69 rfl (fn := Tryz.f69) (by kernel_rfl) (by kernel_rfl)
noncomputable def s71 : SC (Tryz.f71.body.getD .skip) := SC.mk' (by simp only [Tryz.f71, go_sem]; rfl)
noncomputable def fun71 : Fun := ⟨[0, 1, 4, 6, 7, 14, 22, 5], [4, 6], [], 2, s71.1, [.cell 4 true 26, .tmp 5], 2⟩
theorem ok71 : FnM Tryz.prog 71 fun71 := SC.okM s71 rfl (fn := Tryz.f71) (by kernel_rfl) (by kernel_rfl)
noncomputable def s73 : SC (Tryz.f73.body.getD .skip) := SC.mk' (by simp only [Tryz.f73, go_sem]; rfl)
noncomputable def fun73 : Fun := ⟨[0, 1, 2], [1, 2], [], 1, s73.1, [.cell 2 true 6], 0⟩
theorem ok73 : FnM Tryz.prog 73 fun73 := SC.okM s73 rfl (fn := Tryz.f73) (by kernel_rfl) (by kernel_rfl)
noncomputable def s75 : SC (Tryz.f75.body.getD .skip) := SC.mk' (by simp only [Tryz.f75, go_sem]; rfl)
noncomputable def fun75 : Fun := ⟨[0, 1, 3, 6, 5, 2, 32], [1, 2, 3, 4, 6], [47], 1, s75.1, [.cell 2 true 10], 11⟩
theorem ok75 : FnM Tryz.prog 75 fun75 := SC.okM s75 rfl (fn := Tryz.f75) (by kernel_rfl) (by kernel_rfl)
noncomputable def s80 : SC (Tryz.f80.body.getD .skip) := SC.mk' (by simp only [Tryz.f80, go_sem]; rfl)
noncomputable def fun80 : Fun := ⟨[0, 1, 4, 3, 7, 5, 6, 8, 12, 17, 29, 31, 36, 45, 66, 74, 79, 106, 2], [1, 4], [], 1, s80.1, [.tmp 2], 2⟩
theorem ok80 : FnM Tryz.prog 80 fun80 := SC.okM s80 rfl (fn := Tryz.f80) (by kernel_rfl) (by kernel_rfl)
noncomputable def s81 : SC (Tryz.f81.body.getD .skip) := SC.mk' (by simp only [Tryz.f81, go_sem]; rfl)
noncomputable def fun81 : Fun := ⟨[0, 1, 4], [], [], 2, s81.1, [.tmp 4], 0⟩
theorem ok81 : FnM Tryz.prog 81 fun81 := SC.okM s81 rfl (fn := Tryz.f81) (by kernel_rfl) (by kernel_rfl)
noncomputable def s82 : SC (Tryz.f82.body.getD .skip) := SC.mk' (by simp only [Tryz.f82, go_sem]; rfl)
noncomputable def fun82 : Fun := ⟨[0, 1, 2], [1], [], 1, s82.1, [.tmp 2], 5⟩
theorem ok82 : FnM Tryz.prog 82 fun82 := SC.okM s82 rfl (fn := Tryz.f82) (by kernel_rfl) (by kernel_rfl)
noncomputable def s85 : SC (Tryz.f85.body.getD .skip) := SC.mk' (by simp only [Tryz.f85, go_sem]; rfl)
noncomputable def fun85 : Fun := ⟨[0, 1, 2, 4, 6, 7, 3, 15, 32, 11, 10, 12, 14, 18, 19, 136, 24, 33, 43, 58, 13, 72, 80, 95, 16, 17, 115, 122, 20, 132, 137, 146, 8, 9], [3, 4, 6, 7, 11, 12, 15, 19], [52], 3, s85.1, [.cell 6 true 11, .cell 7 true 63, .tmp 8, .tmp 9], 14⟩
theorem ok85 : FnM Tryz.prog 85 fun85 := SC.okM s85 rfl (fn := Tryz.f85) (by kernel_rfl) (by kernel_rfl)
noncomputable def s105 : SC (Tryz.f105.body.getD .skip) := SC.mk' (by simp only [Tryz.f105, go_sem]; rfl)
noncomputable def fun105 : Fun := ⟨[0, 1, 13, 5, 10, 12, 14, 24, 4], [], [], 2, s105.1, [.tmp 4], 0⟩
theorem ok105 : FnM Tryz.prog 105 fun105 := SC.okM s105 rfl (fn := Tryz.f105) (by kernel_rfl) (by kernel_rfl)
noncomputable def s117 : SC (Tryz.f117.body.getD .skip) := SC.mk' (by simp only [Tryz.f117, go_sem]; rfl)
noncomputable def fun117 : Fun := ⟨[0, 1, 2, 6], [], [], 3, s117.1, [.tmp 6], 0⟩
theorem ok117 : FnM Tryz.prog 117 fun117 := SC.okM s117 rfl (fn := Tryz.f117) (by kernel_rfl) (by kernel_rfl)
noncomputable def s119 : SC (Tryz.f119.body.getD .skip) := SC.mk' (by simp only [Tryz.f119, go_sem]; rfl)
noncomputable def fun119 : Fun := ⟨[0, 1, 2, 3, 4, 5, 10, 13, 14, 6, 12, 25, 33, 44, 49, 67, 11], [5, 6, 10, 13], [], 5, s119.1, [.cell 10 true 8, .tmp 11], 9⟩
theorem ok119 : FnM Tryz.prog 119 fun119 := SC.okM s119 rfl (fn := Tryz.f119) (by kernel_rfl) (by kernel_rfl)
noncomputable def s122 : SC (Tryz.f122.body.getD .skip) := SC.mk' (by simp only [Tryz.f122, go_sem]; rfl)
noncomputable def fun122 : Fun := ⟨[0, 1, 2, 8, 3], [1, 2], [], 1, s122.1, [.cell 2 true 26, .tmp 3], 2⟩
theorem ok122 : FnM Tryz.prog 122 fun122 := SC.okM s122 rfl (fn := Tryz.f122) (by kernel_rfl) (by kernel_rfl)
noncomputable def s139 : SC (Tryz.f139.body.getD .skip) := SC.mk' (by simp only [Tryz.f139, go_sem]; rfl)
noncomputable def fun139 : Fun := ⟨[0, 1, 2, 3, 6], [3, 6], [], 3, s139.1, [.cell 6 true 63], 2⟩
theorem ok139 : FnM Tryz.prog 139 fun139 := SC.okM s139 rfl (fn := Tryz.f139) (by kernel_rfl) (by kernel_rfl)
noncomputable def s141 : SC (Tryz.f141.body.getD .skip) := SC.mk' (by simp only [Tryz.f141, go_sem]; rfl)
noncomputable def fun141 : Fun := ⟨[0, 3, 8, 7, 1, 6, 2, 20, 9], [1, 2, 3, 4, 8], [], 1, s141.1, [.cell 2 true 7], 10⟩
theorem ok141 : FnM Tryz.prog 141 fun141 := SC.okM s141 rfl (fn := Tryz.f141) (by kernel_rfl) (by kernel_rfl)
noncomputable def s143 : SC (Tryz.f143.body.getD .skip) := SC.mk' (by simp only [Tryz.f143, go_sem]; rfl)
noncomputable def fun143 : Fun := ⟨[0, 1, 4, 5, 6, 2, 7, 8, 21, 49, 58, 3], [1, 2, 4, 6, 7], [29, 30, 73], 1, s143.1, [.cell 2 true 63, .tmp 3], 12⟩
theorem ok143 : FnM Tryz.prog 143 fun143 := SC.okM s143 rfl (fn := Tryz.f143) (by kernel_rfl) (by kernel_rfl)
noncomputable def s145 : SC (Tryz.f145.body.getD .skip) := SC.mk' (by simp only [Tryz.f145, go_sem]; rfl)
noncomputable def fun145 : Fun := ⟨[0, 1, 5, 4, 2, 16, 17, 29, 3], [1, 2], [], 1, s145.1, [.cell 2 true 8, .tmp 3], 11⟩
theorem ok145 : FnM Tryz.prog 145 fun145 := SC.okM s145 rfl (fn := Tryz.f145) (by kernel_rfl) (by kernel_rfl)
noncomputable def s146 : SC (Tryz.f146.body.getD .skip) := SC.mk' (by simp only [Tryz.f146, go_sem]; rfl)
noncomputable def fun146 : Fun := ⟨[0, 1, 2, 4, 9, 5], [2, 4], [], 2, s146.1, [.cell 4 true 4, .tmp 5], 1⟩
theorem ok146 : FnM Tryz.prog 146 fun146 := SC.okM s146 rfl (fn := Tryz.f146) (by kernel_rfl) (by kernel_rfl)
noncomputable def s171 : SC (Tryz.f171.body.getD .skip) := SC.mk' (by simp only [Tryz.f171, go_sem]; rfl)
noncomputable def fun171 : Fun := ⟨[0, 3, 8, 7, 4, 5, 22, 38, 6, 78, 92, 112, 145, 2], [5, 7], [54], 1, s171.1, [.tmp 2], 9⟩
theorem ok171 : FnM Tryz.prog 171 fun171 := SC.okM s171 rfl (fn := Tryz.f171) (by kernel_rfl) (by kernel_rfl)
noncomputable def s174 : SC (Tryz.f174.body.getD .skip) := SC.mk' (by simp only [Tryz.f174, go_sem]; rfl)
noncomputable def fun174 : Fun := ⟨[0, 3, 4, 5, 6, 28, 50, 60, 86, 114, 133, 139, 153, 2], [3], [], 1, s174.1, [.tmp 2], 8⟩
theorem ok174 : FnM Tryz.prog 174 fun174 := SC.okM s174 rfl (fn := Tryz.f174) (by kernel_rfl) (by kernel_rfl)
noncomputable def s178 : SC (Tryz.f178.body.getD .skip) := SC.mk' (by simp only [Tryz.f178, go_sem]; rfl)
noncomputable def fun178 : Fun := ⟨[0, 1, 5, 2, 9, 12, 4], [2], [], 2, s178.1, [.tmp 4], 8⟩
theorem ok178 : FnM Tryz.prog 178 fun178 := SC.okM s178 rfl (fn := Tryz.f178) (by kernel_rfl) (by kernel_rfl)
noncomputable def s182 : SC (Tryz.f182.body.getD .skip) := SC.mk' (by simp only [Tryz.f182, go_sem]; rfl)
noncomputable def fun182 : Fun := ⟨[0, 1, 2, 4, 5, 7, 8, 9, 19, 6], [2, 4, 5, 7, 8], [], 2, s182.1, [.cell 4 true 8, .cell 5 true 7, .tmp 6], 8⟩
theorem ok182 : FnM Tryz.prog 182 fun182 := SC.okM s182 rfl (fn := Tryz.f182) (by kernel_rfl) (by kernel_rfl)
noncomputable def s188 : SC (Tryz.f188.body.getD .skip) := SC.mk' (by simp only [Tryz.f188, go_sem]; rfl)
noncomputable def fun188 : Fun := ⟨[0, 1, 2], [1, 2], [], 1, s188.1, [.cell 2 true 8], 1⟩
theorem ok188 : FnM Tryz.prog 188 fun188 := SC.okM s188 rfl (fn := Tryz.f188) (by kernel_rfl) (by kernel_rfl)
noncomputable def s192 : SC (Tryz.f192.body.getD .skip) := SC.mk' (by simp only [Tryz.f192, go_sem]; rfl)
noncomputable def fun192 : Fun := ⟨[0, 1, 2], [1], [], 1, s192.1, [.tmp 2], 0⟩
theorem ok192 : FnM Tryz.prog 192 fun192 := SC.okM s192 rfl (fn := Tryz.f192) (by kernel_rfl) (by kernel_rfl)
noncomputable def s193 : SC (Tryz.f193.body.getD .skip) := SC.mk' (by simp only [Tryz.f193, go_sem]; rfl)
noncomputable def fun193 : Fun := ⟨[0, 1, 5, 9, 18, 4], [], [], 2, s193.1, [.tmp 4], 0⟩
theorem ok193 : FnM Tryz.prog 193 fun193 := SC.okM s193 rfl (fn := Tryz.f193) (by kernel_rfl) (by kernel_rfl)
noncomputable def s199 : SC (Tryz.f199.body.getD .skip) := SC.mk' (by simp only [Tryz.f199, go_sem]; rfl)
noncomputable def fun199 : Fun := ⟨[0, 1, 2], [1], [], 1, s199.1, [.tmp 2], 0⟩
theorem ok199 : FnM Tryz.prog 199 fun199 := SC.okM s199 rfl (fn := Tryz.f199) (by kernel_rfl) (by kernel_rfl)
noncomputable def s204 : SC (Tryz.f204.body.getD .skip) := SC.mk' (by simp only [Tryz.f204, go_sem]; rfl)
noncomputable def fun204 : Fun := ⟨[0, 1, 4, 6, 7, 14, 22, 5], [4, 6], [], 2, s204.1, [.cell 4 true 26, .tmp 5], 1⟩
theorem ok204 : FnM Tryz.prog 204 fun204 := SC.okM s204 rfl (fn := Tryz.f204) (by kernel_rfl) (by kernel_rfl)
noncomputable def s205 : SC (Tryz.f205.body.getD .skip) := SC.mk' (by simp only [Tryz.f205, go_sem]; rfl)
noncomputable def fun205 : Fun := ⟨[0, 1, 5, 6, 2, 7, 9, 3, 4], [1, 2], [], 1, s205.1, [.cell 2 true 8, .tmp 3, .tmp 4], 9⟩
theorem ok205 : FnM Tryz.prog 205 fun205 := SC.okM s205 rfl (fn := Tryz.f205) (by kernel_rfl) (by kernel_rfl)
noncomputable def s207 : SC (Tryz.f207.body.getD .skip) := SC.mk' (by simp only [Tryz.f207, go_sem]; rfl)
noncomputable def fun207 : Fun := ⟨[0, 1, 2, 3, 4, 5, 14, 6, 10, 12, 13, 24, 40, 11], [5, 6, 10, 13, 14], [], 5, s207.1, [.cell 10 true 8, .tmp 11], 10⟩
theorem ok207 : FnM Tryz.prog 207 fun207 := SC.okM s207 rfl (fn := Tryz.f207) (by kernel_rfl) (by kernel_rfl)
noncomputable def s238 : SC (Tryz.f238.body.getD .skip) := SC.mk' (by simp only [Tryz.f238, go_sem]; rfl)
noncomputable def fun238 : Fun := ⟨[0, 1, 2], [], [], 1, s238.1, [.tmp 2], 8⟩
theorem ok238 : FnM Tryz.prog 238 fun238 := SC.okM s238 rfl (fn := Tryz.f238) (by kernel_rfl) (by kernel_rfl)
noncomputable def s239 : SC (Tryz.f239.body.getD .skip) := SC.mk' (by simp only [Tryz.f239, go_sem]; rfl)
noncomputable def fun239 : Fun := ⟨[0, 1], [], [], 2, s239.1, [], 0⟩
theorem ok239 : FnM Tryz.prog 239 fun239 := SC.okM s239 rfl (fn := Tryz.f239) (by kernel_rfl) (by kernel_rfl)
noncomputable def s240 : SC (Tryz.f240.body.getD .skip) := SC.mk' (by simp only [Tryz.f240, go_sem]; rfl)
noncomputable def fun240 : Fun := ⟨[0, 1, 2, 4, 14, 5], [2, 4], [], 2, s240.1, [.cell 4 true 4, .tmp 5], 0⟩
theorem ok240 : FnM Tryz.prog 240 fun240 := SC.okM s240 rfl (fn := Tryz.f240) (by kernel_rfl) (by kernel_rfl)
noncomputable def s247 : SC (Tryz.f247.body.getD .skip) := SC.mk' (by simp only [Tryz.f247, go_sem]; rfl)
noncomputable def fun247 : Fun := ⟨[0, 2], [], [], 1, s247.1, [.tmp 2], 0⟩
theorem ok247 : FnM Tryz.prog 247 fun247 := SC.okM s247 rfl (fn := Tryz.f247) (by kernel_rfl) (by kernel_rfl)
noncomputable def s250 : SC (Tryz.f250.body.getD .skip) := SC.mk' (by simp only [Tryz.f250, go_sem]; rfl)
noncomputable def fun250 : Fun := ⟨[0, 1, 2, 3, 4, 8, 7, 10, 11, 17, 23, 39, 9], [4, 7, 8], [], 4, s250.1, [.cell 8 true 11, .tmp 9], 7⟩
theorem ok250 : FnM Tryz.prog 250 fun250 := SC.okM s250 rfl (fn := Tryz.f250) (by kernel_rfl) (by kernel_rfl)
noncomputable def s253 : SC (Tryz.f253.body.getD .skip) := SC.mk' (by simp only [Tryz.f253, go_sem]; rfl)
noncomputable def fun253 : Fun := ⟨[0, 1, 2, 3, 8, 11, 4, 5, 10, 12, 18, 27, 43, 9], [4, 5, 8, 11], [], 4, s253.1, [.cell 8 true 4, .tmp 9], 10⟩
theorem ok253 : FnM Tryz.prog 253 fun253 := SC.okM s253 rfl (fn := Tryz.f253) (by kernel_rfl) (by kernel_rfl)
noncomputable def s256 : SC (Tryz.f256.body.getD .skip) := SC.mk' (by simp only [Tryz.f256, go_sem]; rfl)
noncomputable def fun256 : Fun := ⟨[0, 1, 2], [1], [], 1, s256.1, [.tmp 2], 0⟩
theorem ok256 : FnM Tryz.prog 256 fun256 := SC.okM s256 rfl (fn := Tryz.f256) (by kernel_rfl) (by kernel_rfl)
noncomputable def s257 : SC (Tryz.f257.body.getD .skip) := SC.mk' (by simp only [Tryz.f257, go_sem]; rfl)
noncomputable def fun257 : Fun := ⟨[0, 1, 4], [], [], 2, s257.1, [.tmp 4], 0⟩
theorem ok257 : FnM Tryz.prog 257 fun257 := SC.okM s257 rfl (fn := Tryz.f257) (by kernel_rfl) (by kernel_rfl)
noncomputable def s259 : SC (Tryz.f259.body.getD .skip) := SC.mk' (by simp only [Tryz.f259, go_sem]; rfl)
noncomputable def fun259 : Fun := ⟨[0, 1, 4], [], [], 2, s259.1, [.tmp 4], 1⟩
theorem ok259 : FnM Tryz.prog 259 fun259 := SC.okM s259 rfl (fn := Tryz.f259) (by kernel_rfl) (by kernel_rfl)
noncomputable def s261 : SC (Tryz.f261.body.getD .skip) := SC.mk' (by simp only [Tryz.f261, go_sem]; rfl)
noncomputable def fun261 : Fun := ⟨[0, 1, 2, 4], [2], [], 2, s261.1, [.tmp 4], 0⟩
theorem ok261 : FnM Tryz.prog 261 fun261 := SC.okM s261 rfl (fn := Tryz.f261) (by kernel_rfl) (by kernel_rfl)
noncomputable def s264 : SC (Tryz.f264.body.getD .skip) := SC.mk' (by simp only [Tryz.f264, go_sem]; rfl)
noncomputable def fun264 : Fun := ⟨[0, 1, 2], [1, 2], [], 1, s264.1, [.cell 2 true 3], 1⟩
theorem ok264 : FnM Tryz.prog 264 fun264 := SC.okM s264 rfl (fn := Tryz.f264) (by kernel_rfl) (by kernel_rfl)
noncomputable def s266 : SC (Tryz.f266.body.getD .skip) := SC.mk' (by simp only [Tryz.f266, go_sem]; rfl)
noncomputable def fun266 : Fun := ⟨[0, 4, 2], [], [], 1, s266.1, [.tmp 2], 0⟩
theorem ok266 : FnM Tryz.prog 266 fun266 := SC.okM s266 rfl (fn := Tryz.f266) (by kernel_rfl) (by kernel_rfl)
noncomputable def s271 : SC (Tryz.f271.body.getD .skip) := SC.mk' (by simp only [Tryz.f271, go_sem]; rfl)
noncomputable def fun271 : Fun := ⟨[0, 1, 6, 7, 11, 17, 4, 5], [], [], 2, s271.1, [.tmp 4, .tmp 5], 6⟩
theorem ok271 : FnM Tryz.prog 271 fun271 := SC.okM s271 rfl (fn := Tryz.f271) (by kernel_rfl) (by kernel_rfl)
noncomputable def s280 : SC (Tryz.f280.body.getD .skip) := SC.mk' (by simp only [Tryz.f280, go_sem]; rfl)
noncomputable def fun280 : Fun := ⟨[0, 2], [], [], 1, s280.1, [.tmp 2], 0⟩
theorem ok280 : FnM Tryz.prog 280 fun280 := SC.okM s280 rfl (fn := Tryz.f280) (by kernel_rfl) (by kernel_rfl)
noncomputable def s286 : SC (Tryz.f286.body.getD .skip) := SC.mk' (by simp only [Tryz.f286, go_sem]; rfl)
noncomputable def fun286 : Fun := ⟨[0, 1, 2, 4], [2], [], 2, s286.1, [.tmp 4], 0⟩
theorem ok286 : FnM Tryz.prog 286 fun286 := SC.okM s286 rfl (fn := Tryz.f286) (by kernel_rfl) (by kernel_rfl)
noncomputable def s291 : SC (Tryz.f291.body.getD .skip) := SC.mk' (by simp only [Tryz.f291, go_sem]; rfl)
noncomputable def fun291 : Fun := ⟨[0, 2], [], [], 1, s291.1, [.tmp 2], 0⟩
theorem ok291 : FnM Tryz.prog 291 fun291 := SC.okM s291 rfl (fn := Tryz.f291) (by kernel_rfl) (by kernel_rfl)
noncomputable def s292 : SC (Tryz.f292.body.getD .skip) := SC.mk' (by simp only [Tryz.f292, go_sem]; rfl)
noncomputable def fun292 : Fun := ⟨[0, 1, 2, 4, 5, 8, 9, 7, 13, 23, 6], [2, 4, 5], [31, 32], 2, s292.1, [.cell 4 true 3, .cell 5 true 7, .tmp 6], 3⟩
theorem ok292 : FnM Tryz.prog 292 fun292 := SC.okM s292 rfl (fn := Tryz.f292) (by kernel_rfl) (by kernel_rfl)
noncomputable def s294 : SC (Tryz.f294.body.getD .skip) := SC.mk' (by simp only [Tryz.f294, go_sem]; rfl)
noncomputable def fun294 : Fun := ⟨[0, 1, 2, 9, 3, 8, 7, 10, 14, 22, 38, 6], [3], [31], 3, s294.1, [.tmp 6], 4⟩
theorem ok294 : FnM Tryz.prog 294 fun294 := SC.okM s294 rfl (fn := Tryz.f294) (by kernel_rfl) (by kernel_rfl)
noncomputable def s304 : SC (Tryz.f304.body.getD .skip) := SC.mk' (by simp only [Tryz.f304, go_sem]; rfl)
noncomputable def fun304 : Fun := ⟨[0, 2], [], [], 1, s304.1, [.tmp 2], 0⟩
theorem ok304 : FnM Tryz.prog 304 fun304 := SC.okM s304 rfl (fn := Tryz.f304) (by kernel_rfl) (by kernel_rfl)
noncomputable def s305 : SC (Tryz.f305.body.getD .skip) := SC.mk' (by simp only [Tryz.f305, go_sem]; rfl)
noncomputable def fun305 : Fun := ⟨[0, 1, 2, 3, 7, 17, 6], [3], [], 3, s305.1, [.tmp 6], 2⟩
theorem ok305 : FnM Tryz.prog 305 fun305 := SC.okM s305 rfl (fn := Tryz.f305) (by kernel_rfl) (by kernel_rfl)
noncomputable def s308 : SC (Tryz.f308.body.getD .skip) := SC.mk' (by simp only [Tryz.f308, go_sem]; rfl)
noncomputable def fun308 : Fun := ⟨[0, 1, 2, 6, 7, 11, 15, 4, 5], [2], [], 2, s308.1, [.tmp 4, .tmp 5], 0⟩
theorem ok308 : FnM Tryz.prog 308 fun308 := SC.okM s308 rfl (fn := Tryz.f308) (by kernel_rfl) (by kernel_rfl)
noncomputable def s311 : SC (Tryz.f311.body.getD .skip) := SC.mk' (by simp only [Tryz.f311, go_sem]; rfl)
noncomputable def fun311 : Fun := ⟨[0, 4, 2], [], [], 1, s311.1, [.tmp 2], 0⟩
theorem ok311 : FnM Tryz.prog 311 fun311 := SC.okM s311 rfl (fn := Tryz.f311) (by kernel_rfl) (by kernel_rfl)
noncomputable def s318 : SC (Tryz.f318.body.getD .skip) := SC.mk' (by simp only [Tryz.f318, go_sem]; rfl)
noncomputable def fun318 : Fun := ⟨[0, 1, 38, 42, 2], [1], [], 1, s318.1, [.tmp 2], 1⟩
theorem ok318 : FnM Tryz.prog 318 fun318 := SC.okM s318 rfl (fn := Tryz.f318) (by kernel_rfl) (by kernel_rfl)
noncomputable def s319 : SC (Tryz.f319.body.getD .skip) := SC.mk' (by simp only [Tryz.f319, go_sem]; rfl)
noncomputable def fun319 : Fun := ⟨[0, 13, 5, 11, 4, 8, 10, 12, 14, 3, 23, 28, 36, 2], [4], [], 1, s319.1, [.tmp 2], 4⟩
theorem ok319 : FnM Tryz.prog 319 fun319 := SC.okM s319 rfl (fn := Tryz.f319) (by kernel_rfl) (by kernel_rfl)
noncomputable def s324 : SC (Tryz.f324.body.getD .skip) := SC.mk' (by simp only [Tryz.f324, go_sem]; rfl)
noncomputable def fun324 : Fun := ⟨[0, 1, 2, 9, 11, 8, 10, 17, 31, 6, 7], [], [], 3, s324.1, [.tmp 6, .tmp 7], 3⟩
theorem ok324 : FnM Tryz.prog 324 fun324 := SC.okM s324 rfl (fn := Tryz.f324) (by kernel_rfl) (by kernel_rfl)
noncomputable def s325 : SC (Tryz.f325.body.getD .skip) := SC.mk' (by simp only [Tryz.f325, go_sem]; rfl)
noncomputable def fun325 : Fun := ⟨[0, 1, 2, 4], [2], [], 2, s325.1, [.tmp 4], 2⟩
theorem ok325 : FnM Tryz.prog 325 fun325 := SC.okM s325 rfl (fn := Tryz.f325) (by kernel_rfl) (by kernel_rfl)
noncomputable def s328 : SC (Tryz.f328.body.getD .skip) := SC.mk' (by simp only [Tryz.f328, go_sem]; rfl)
noncomputable def fun328 : Fun := ⟨[0, 1, 6, 5, 16, 29, 4], [], [], 2, s328.1, [.tmp 4], 5⟩
theorem ok328 : FnM Tryz.prog 328 fun328 := SC.okM s328 rfl (fn := Tryz.f328) (by kernel_rfl) (by kernel_rfl)
noncomputable def s331 : SC (Tryz.f331.body.getD .skip) := SC.mk' (by simp only [Tryz.f331, go_sem]; rfl)
noncomputable def fun331 : Fun := ⟨[0, 1, 2, 4, 6, 7, 15, 3, 9, 11, 56, 12, 13, 16, 10, 32, 36, 47, 49, 73, 90, 94, 101, 109, 8], [3, 4, 6, 7], [27, 69], 3, s331.1, [.cell 6 true 11, .cell 7 true 5, .tmp 8], 2⟩
theorem ok331 : FnM Tryz.prog 331 fun331 := SC.okM s331 rfl (fn := Tryz.f331) (by kernel_rfl) (by kernel_rfl)
noncomputable def s334 : SC (Tryz.f334.body.getD .skip) := SC.mk' (by simp only [Tryz.f334, go_sem]; rfl)
noncomputable def fun334 : Fun := ⟨[0, 1, 3, 2, 7, 9, 4, 5, 8, 21, 48, 6], [2, 3, 4, 5, 9], [33], 2, s334.1, [.cell 4 true 11, .cell 5 true 26, .tmp 6], 2⟩
theorem ok334 : FnM Tryz.prog 334 fun334 := SC.okM s334 rfl (fn := Tryz.f334) (by kernel_rfl) (by kernel_rfl)
noncomputable def s338 : SC (Tryz.f338.body.getD .skip) := SC.mk' (by simp only [Tryz.f338, go_sem]; rfl)
noncomputable def fun338 : Fun := ⟨[0, 1, 2, 4, 3, 9, 12, 6, 7, 10, 11, 22, 45, 63, 76, 8], [3, 4, 6, 7, 10], [41], 3, s338.1, [.cell 6 true 11, .cell 7 true 26, .tmp 8], 10⟩
theorem ok338 : FnM Tryz.prog 338 fun338 := SC.okM s338 rfl (fn := Tryz.f338) (by kernel_rfl) (by kernel_rfl)
noncomputable def s339 : SC (Tryz.f339.body.getD .skip) := SC.mk' (by simp only [Tryz.f339, go_sem]; rfl)
noncomputable def fun339 : Fun := ⟨[0, 1, 2, 3, 5, 6, 10, 15, 22, 28, 4], [2, 3], [], 2, s339.1, [.tmp 4], 3⟩
theorem ok339 : FnM Tryz.prog 339 fun339 := SC.okM s339 rfl (fn := Tryz.f339) (by kernel_rfl) (by kernel_rfl)
noncomputable def s340 : SC (Tryz.f340.body.getD .skip) := SC.mk' (by simp only [Tryz.f340, go_sem]; rfl)
noncomputable def fun340 : Fun := ⟨[0, 1, 2, 7, 8, 3, 6, 20], [3, 6, 7], [], 3, s340.1, [.cell 6 true 3], 0⟩
theorem ok340 : FnM Tryz.prog 340 fun340 := SC.okM s340 rfl (fn := Tryz.f340) (by kernel_rfl) (by kernel_rfl)
noncomputable def s343 : SC (Tryz.f343.body.getD .skip) := SC.mk' (by simp only [Tryz.f343, go_sem]; rfl)
noncomputable def fun343 : Fun := ⟨[0, 1, 2, 3, 6, 4, 10, 8, 9, 17, 23, 26, 31, 39, 45, 68, 11, 13, 7], [3, 4, 6], [85], 3, s343.1, [.cell 6 true 2, .tmp 7], 3⟩
theorem ok343 : FnM Tryz.prog 343 fun343 := SC.okM s343 rfl (fn := Tryz.f343) (by kernel_rfl) (by kernel_rfl)
noncomputable def s346 : SC (Tryz.f346.body.getD .skip) := SC.mk' (by simp only [Tryz.f346, go_sem]; rfl)
noncomputable def fun346 : Fun := ⟨[0, 1, 3, 6, 10, 12, 16, 20, 4, 5], [3], [27], 2, s346.1, [.tmp 4, .tmp 5], 2⟩
theorem ok346 : FnM Tryz.prog 346 fun346 := SC.okM s346 rfl (fn := Tryz.f346) (by kernel_rfl) (by kernel_rfl)
noncomputable def s356 : SC (Tryz.f356.body.getD .skip) := SC.mk' (by simp only [Tryz.f356, go_sem]; rfl)
noncomputable def fun356 : Fun := ⟨[0, 1, 2, 3, 6, 9, 10, 23, 26, 7, 8], [3, 6], [], 3, s356.1, [.cell 6 true 11, .tmp 7, .tmp 8], 2⟩
theorem ok356 : FnM Tryz.prog 356 fun356 := SC.okM s356 rfl (fn := Tryz.f356) (by kernel_rfl) (by kernel_rfl)
noncomputable def s357 : SC (Tryz.f357.body.getD .skip) := SC.mk' (by simp only [Tryz.f357, go_sem]; rfl)
noncomputable def fun357 : Fun := ⟨[0, 1, 2, 6, 3, 8, 9, 16, 25, 7], [3, 6], [], 3, s357.1, [.cell 6 true 11, .tmp 7], 2⟩
theorem ok357 : FnM Tryz.prog 357 fun357 := SC.okM s357 rfl (fn := Tryz.f357) (by kernel_rfl) (by kernel_rfl)
noncomputable def s366 : SC (Tryz.f366.body.getD .skip) := SC.mk' (by simp only [Tryz.f366, go_sem]; rfl)
noncomputable def fun366 : Fun := ⟨[0, 1, 2, 6], [], [], 3, s366.1, [.tmp 6], 3⟩
theorem ok366 : FnM Tryz.prog 366 fun366 := SC.okM s366 rfl (fn := Tryz.f366) (by kernel_rfl) (by kernel_rfl)
noncomputable def s369 : SC (Tryz.f369.body.getD .skip) := SC.mk' (by simp only [Tryz.f369, go_sem]; rfl)
noncomputable def fun369 : Fun := ⟨[0, 1, 8, 5, 7, 9, 16, 4], [], [], 2, s369.1, [.tmp 4], 1⟩
theorem ok369 : FnM Tryz.prog 369 fun369 := SC.okM s369 rfl (fn := Tryz.f369) (by kernel_rfl) (by kernel_rfl)
noncomputable def s371 : SC (Tryz.f371.body.getD .skip) := SC.mk' (by simp only [Tryz.f371, go_sem]; rfl)
noncomputable def fun371 : Fun := ⟨[0, 2], [], [], 1, s371.1, [.tmp 2], 0⟩
theorem ok371 : FnM Tryz.prog 371 fun371 := SC.okM s371 rfl (fn := Tryz.f371) (by kernel_rfl) (by kernel_rfl)
noncomputable def s377 : SC (Tryz.f377.body.getD .skip) := SC.mk' (by simp only [Tryz.f377, go_sem]; rfl)
noncomputable def fun377 : Fun := ⟨[0, 1, 2, 4, 14, 20, 3], [1, 2], [], 1, s377.1, [.cell 2 true 4, .tmp 3], 0⟩
theorem ok377 : FnM Tryz.prog 377 fun377 := SC.okM s377 rfl (fn := Tryz.f377) (by kernel_rfl) (by kernel_rfl)
noncomputable def s382 : SC (Tryz.f382.body.getD .skip) := SC.mk' (by simp only [Tryz.f382, go_sem]; rfl)
noncomputable def fun382 : Fun := ⟨[0, 1, 2, 3, 4, 8, 7, 10, 11, 17, 23, 39, 9], [4, 7, 8], [], 4, s382.1, [.cell 8 true 11, .tmp 9], 7⟩
theorem ok382 : FnM Tryz.prog 382 fun382 := SC.okM s382 rfl (fn := Tryz.f382) (by kernel_rfl) (by kernel_rfl)
noncomputable def s386 : SC (Tryz.f386.body.getD .skip) := SC.mk' (by simp only [Tryz.f386, go_sem]; rfl)
noncomputable def fun386 : Fun := ⟨[0, 1, 2, 3, 8, 4, 5, 10, 20, 25, 30, 46, 11, 12, 9], [4, 5, 8], [], 4, s386.1, [.cell 8 true 4, .tmp 9], 9⟩
theorem ok386 : FnM Tryz.prog 386 fun386 := SC.okM s386 rfl (fn := Tryz.f386) (by kernel_rfl) (by kernel_rfl)
noncomputable def s389 : SC (Tryz.f389.body.getD .skip) := SC.mk' (by simp only [Tryz.f389, go_sem]; rfl)
noncomputable def fun389 : Fun := ⟨[0, 1, 2, 6, 3], [1, 2], [], 1, s389.1, [.cell 2 true 5, .tmp 3], 0⟩
theorem ok389 : FnM Tryz.prog 389 fun389 := SC.okM s389 rfl (fn := Tryz.f389) (by kernel_rfl) (by kernel_rfl)
noncomputable def s395 : SC (Tryz.f395.body.getD .skip) := SC.mk' (by simp only [Tryz.f395, go_sem]; rfl)
noncomputable def fun395 : Fun := ⟨[0, 1, 2, 3, 6, 11], [3, 6], [], 3, s395.1, [.cell 6 true 11], 1⟩
theorem ok395 : FnM Tryz.prog 395 fun395 := SC.okM s395 rfl (fn := Tryz.f395) (by kernel_rfl) (by kernel_rfl)
noncomputable def s398 : SC (Tryz.f398.body.getD .skip) := SC.mk' (by simp only [Tryz.f398, go_sem]; rfl)
noncomputable def fun398 : Fun := ⟨[0, 1, 8, 5, 3, 7, 9, 16, 4], [3], [], 2, s398.1, [.tmp 4], 0⟩
theorem ok398 : FnM Tryz.prog 398 fun398 := SC.okM s398 rfl (fn := Tryz.f398) (by kernel_rfl) (by kernel_rfl)
noncomputable def s400 : SC (Tryz.f400.body.getD .skip) := SC.mk' (by simp only [Tryz.f400, go_sem]; rfl)
noncomputable def fun400 : Fun := ⟨[0, 1, 2, 9, 4], [2], [], 2, s400.1, [.tmp 4], 0⟩
theorem ok400 : FnM Tryz.prog 400 fun400 := SC.okM s400 rfl (fn := Tryz.f400) (by kernel_rfl) (by kernel_rfl)
noncomputable def s401 : SC (Tryz.f401.body.getD .skip) := SC.mk' (by simp only [Tryz.f401, go_sem]; rfl)
noncomputable def fun401 : Fun := ⟨[0, 1, 2, 3, 6, 11], [3, 6], [], 3, s401.1, [.cell 6 true 11], 0⟩
theorem ok401 : FnM Tryz.prog 401 fun401 := SC.okM s401 rfl (fn := Tryz.f401) (by kernel_rfl) (by kernel_rfl)
noncomputable def s402 : SC (Tryz.f402.body.getD .skip) := SC.mk' (by simp only [Tryz.f402, go_sem]; rfl)
noncomputable def fun402 : Fun := ⟨[0, 1, 2, 3, 15, 23, 6], [3], [], 3, s402.1, [.tmp 6], 1⟩
theorem ok402 : FnM Tryz.prog 402 fun402 := SC.okM s402 rfl (fn := Tryz.f402) (by kernel_rfl) (by kernel_rfl)
noncomputable def s403 : SC (Tryz.f403.body.getD .skip) := SC.mk' (by simp only [Tryz.f403, go_sem]; rfl)
noncomputable def fun403 : Fun := ⟨[0, 1, 2, 12, 3, 10, 13, 8, 9, 11, 26, 34, 52, 58, 67, 6, 7], [3], [], 3, s403.1, [.tmp 6, .tmp 7], 8⟩
theorem ok403 : FnM Tryz.prog 403 fun403 := SC.okM s403 rfl (fn := Tryz.f403) (by kernel_rfl) (by kernel_rfl)
noncomputable def s405 : SC (Tryz.f405.body.getD .skip) := SC.mk' (by simp only [Tryz.f405, go_sem]; rfl)
noncomputable def fun405 : Fun := ⟨[0, 1, 2, 7, 6], [], [], 3, s405.1, [.tmp 6], 0⟩
theorem ok405 : FnM Tryz.prog 405 fun405 := SC.okM s405 rfl (fn := Tryz.f405) (by kernel_rfl) (by kernel_rfl)
end Go.M
