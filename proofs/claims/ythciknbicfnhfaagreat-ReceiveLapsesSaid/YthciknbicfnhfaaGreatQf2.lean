/-
  The codes of functions, as the machine takes them.
  No condition: definitions and lemmas.
-/
import Derived.Test.YthciknbicfnhfaaGreatQty
set_option linter.all false
set_option maxRecDepth 100000
set_option maxHeartbeats 4000000
namespace Go.M
open Go Go.Proofs
open Go.Eng (SOp SOper SCode sizeP aggP zerosOf bytesP zeroVal stripCode stripOps stripOper strip stripParts kindsOf)

noncomputable def s16 : SC (Tryz.f16.body.getD .skip) := SC.mk' (by simp only [Tryz.f16, go_sem]; rfl)
noncomputable def fun16 : Fun := ⟨[0, 1, 2], [1], [], 1, s16.1, [.tmp 2], 4⟩
theorem ok16 : FnM Tryz.prog 16 fun16 := SC.okM s16 rfl (fn := Tryz.f16) (by kernel_rfl) (by kernel_rfl)
noncomputable def s19 : SC (Tryz.f19.body.getD .skip) := SC.mk' (by simp only [Tryz.f19, go_sem]; rfl)
noncomputable def fun19 : Fun := ⟨[4, 1, 3, 5, 0], [1, 2], [], 0, s19.1, [.tmp 0], 19⟩
theorem ok19 : FnM Tryz.prog 19 fun19 := SC.okM s19 rfl (fn := Tryz.f19) (by kernel_rfl) (by kernel_rfl)
noncomputable def s21 : SC (Tryz.f21.body.getD .skip) := SC.mk' (by simp only [Tryz.f21, go_sem]; rfl)
noncomputable def fun21 : Fun := ⟨[0, 1, 2, 4, 5, 12, 3], [1, 2, 4], [], 1, s21.1, [.cell 2 true 23, .tmp 3], 3⟩
theorem ok21 : FnM Tryz.prog 21 fun21 := SC.okM s21 rfl (fn := Tryz.f21) (by kernel_rfl) (by kernel_rfl)
noncomputable def s22 : SC (Tryz.f22.body.getD .skip) := SC.mk' (by simp only [Tryz.f22, go_sem]; rfl)
noncomputable def fun22 : Fun := ⟨[0, 1, 2, 3, 8, 6, 5, 11, 12, 22, 30, 37, 9], [5, 6, 8, 10], [], 4, s22.1, [.cell 8 true 63, .tmp 9], 3⟩
theorem ok22 : FnM Tryz.prog 22 fun22 := SC.okM s22 rfl (fn := Tryz.f22) (by kernel_rfl) (by kernel_rfl)
noncomputable def s25 : SC (Tryz.f25.body.getD .skip) := SC.mk' (by simp only [Tryz.f25, go_sem]; rfl)
noncomputable def fun25 : Fun := ⟨[0, 1, 4, 42, 2, 3], [1], [], 1, s25.1, [.tmp 2, .tmp 3], 2⟩
theorem ok25 : FnM Tryz.prog 25 fun25 := SC.okM s25 rfl (fn := Tryz.f25) (by kernel_rfl) (by kernel_rfl)
noncomputable def s30 : SC (Tryz.f30.body.getD .skip) := SC.mk' (by simp only [Tryz.f30, go_sem]; rfl)
noncomputable def fun30 : Fun := ⟨[0, 4, 1, 6, 7, 8, 3, 5, 19, 2], [1, 8], [], 1, s30.1, [.tmp 2], 1⟩
theorem ok30 : FnM Tryz.prog 30 fun30 := SC.okM s30 rfl (fn := Tryz.f30) (by kernel_rfl) (by kernel_rfl)
noncomputable def s37 : SC (Tryz.f37.body.getD .skip) := SC.mk' (by simp only [Tryz.f37, go_sem]; rfl)
noncomputable def fun37 : Fun := ⟨[0, 1, 2, 11, 5, 6, 63, 86, 3, 38, 109, 129, 12, 23, 28, 37, 62, 76, 85, 108, 116, 117, 128, 4], [2, 3], [], 2, s37.1, [.tmp 4], 1⟩
theorem ok37 : FnM Tryz.prog 37 fun37 := SC.okM s37 rfl (fn := Tryz.f37) (by kernel_rfl) (by kernel_rfl)
noncomputable def s47 : SC (Tryz.f47.body.getD .skip) := SC.mk' (by simp only [Tryz.f47, go_sem]; rfl)
noncomputable def fun47 : Fun := ⟨[0, 1, 5, 2, 10, 20, 4], [2], [], 2, s47.1, [.tmp 4], 0⟩
theorem ok47 : FnM Tryz.prog 47 fun47 := SC.okM s47 rfl (fn := Tryz.f47) (by kernel_rfl) (by kernel_rfl)
noncomputable def s48 : SC (Tryz.f48.body.getD .skip) := SC.mk' (by simp only [Tryz.f48, go_sem]; rfl)
noncomputable def fun48 : Fun := ⟨[0, 1, 6, 7, 8, 3, 4, 5, 13, 19, 31, 43, 49, 55, 61, 81, 85, 96, 2], [1], [], 1, s48.1, [.tmp 2], 6⟩
theorem ok48 : FnM Tryz.prog 48 fun48 := SC.okM s48 rfl (fn := Tryz.f48) (by kernel_rfl) (by kernel_rfl)
noncomputable def s49 : SC (Tryz.f49.body.getD .skip) := SC.mk' (by simp only [Tryz.f49, go_sem]; rfl)
noncomputable def fun49 : Fun := ⟨[0, 4, 1, 10, 5, 2], [1], [], 1, s49.1, [.tmp 2], 0⟩
theorem ok49 : FnM Tryz.prog 49 fun49 := SC.okM s49 rfl (fn := Tryz.f49) (by kernel_rfl) (by kernel_rfl)
noncomputable def s50 : SC (Tryz.f50.body.getD .skip) := SC.mk' (by simp only [Tryz.f50, go_sem]; rfl)
noncomputable def fun50 : Fun := ⟨[0, 1, 2, 19, 4, 6, 7, 3, 40, 112, 11, 20, 30, 52, 62, 72, 82, 92, 102, 123, 8, 9], [3, 4, 6, 7], [], 3, s50.1, [.cell 6 true 11, .cell 7 true 63, .tmp 8, .tmp 9], 15⟩
theorem ok50 : FnM Tryz.prog 50 fun50 := SC.okM s50 rfl (fn := Tryz.f50) (by kernel_rfl) (by kernel_rfl)
noncomputable def s51 : SC (Tryz.f51.body.getD .skip) := SC.mk' (by simp only [Tryz.f51, go_sem]; rfl)
noncomputable def fun51 : Fun := ⟨[0, 1, 3, 5, 8, 4, 6, 7, 39, 44, 58, 64, 73, 78, 89, 2], [1], [], 1, s51.1, [.tmp 2], 2⟩
theorem ok51 : FnM Tryz.prog 51 fun51 := SC.okM s51 rfl (fn := Tryz.f51) (by kernel_rfl) (by kernel_rfl)
noncomputable def s52 : SC (Tryz.f52.body.getD .skip) := SC.mk' (by simp only [Tryz.f52, go_sem]; rfl)
noncomputable def fun52 : Fun := ⟨[0, 1, 4, 3, 8, 2], [1], [], 1, s52.1, [.tmp 2], 0⟩
theorem ok52 : FnM Tryz.prog 52 fun52 := SC.okM s52 rfl (fn := Tryz.f52) (by kernel_rfl) (by kernel_rfl)
noncomputable def s55 : SC (Tryz.f55.body.getD .skip) := SC.mk' (by simp only [Tryz.f55, go_sem]; rfl)
noncomputable def fun55 : Fun := ⟨[0, 1, 3, 4, 6, 8, 2, 21, 42, 5], [2, 3, 4, 6], [], 2, s55.1, [.cell 4 true 63, .tmp 5], 6⟩
theorem ok55 : FnM Tryz.prog 55 fun55 := SC.okM s55 rfl (fn := Tryz.f55) (by kernel_rfl) (by kernel_rfl)
noncomputable def s57 : SC (Tryz.f57.body.getD .skip) := SC.mk' (by simp only [Tryz.f57, go_sem]; rfl)
noncomputable def fun57 : Fun := ⟨[0, 1, 2, 4, 3], [1, 2], [], 1, s57.1, [.cell 2 true 63, .tmp 3], 3⟩
theorem ok57 : FnM Tryz.prog 57 fun57 := SC.okM s57 rfl (fn := Tryz.f57) (by kernel_rfl) (by kernel_rfl)
noncomputable def s73 : SC (Tryz.f73.body.getD .skip) := SC.mk' (by simp only [Tryz.f73, go_sem]; rfl)
noncomputable def fun73 : Fun := ⟨[0, 1, 2], [1, 2], [], 1, s73.1, [.cell 2 true 6], 0⟩
theorem ok73 : FnM Tryz.prog 73 fun73 := SC.okM s73 rfl (fn := Tryz.f73) (by kernel_rfl) (by kernel_rfl)
noncomputable def s77 : SC (Tryz.f77.body.getD .skip) := SC.mk' (by simp only [Tryz.f77, go_sem]; rfl)
noncomputable def fun77 : Fun := ⟨[0, 1, 2, 3, 4, 29, 7, 27, 10, 24, 28, 30, 6, 51, 61, 67, 5], [2, 3, 4], [], 2, s77.1, [.cell 4 true 26, .tmp 5], 3⟩
theorem ok77 : FnM Tryz.prog 77 fun77 := SC.okM s77 rfl (fn := Tryz.f77) (by kernel_rfl) (by kernel_rfl)
noncomputable def s99 : SC (Tryz.f99.body.getD .skip) := SC.mk' (by simp only [Tryz.f99, go_sem]; rfl)
noncomputable def fun99 : Fun := ⟨[0, 2, 9, 3], [2], [], 1, s99.1, [.cell 2 true 2, .tmp 3], 0⟩
theorem ok99 : FnM Tryz.prog 99 fun99 := SC.okM s99 rfl (fn := Tryz.f99) (by kernel_rfl) (by kernel_rfl)
noncomputable def s107 : SC (Tryz.f107.body.getD .skip) := SC.mk' (by simp only [Tryz.f107, go_sem]; rfl)
noncomputable def fun107 : Fun := ⟨[0, 4, 1, 10, 5, 2], [1], [], 1, s107.1, [.tmp 2], 0⟩
theorem ok107 : FnM Tryz.prog 107 fun107 := SC.okM s107 rfl (fn := Tryz.f107) (by kernel_rfl) (by kernel_rfl)
noncomputable def s110 : SC (Tryz.f110.body.getD .skip) := SC.mk' (by simp only [Tryz.f110, go_sem]; rfl)
noncomputable def fun110 : Fun := ⟨[0, 1, 2, 3], [2], [], 2, s110.1, [.tmp 3], 0⟩
theorem ok110 : FnM Tryz.prog 110 fun110 := SC.okM s110 rfl (fn := Tryz.f110) (by kernel_rfl) (by kernel_rfl)
noncomputable def s117 : SC (Tryz.f117.body.getD .skip) := SC.mk' (by simp only [Tryz.f117, go_sem]; rfl)
noncomputable def fun117 : Fun := ⟨[0, 1, 2, 6], [], [], 3, s117.1, [.tmp 6], 0⟩
theorem ok117 : FnM Tryz.prog 117 fun117 := SC.okM s117 rfl (fn := Tryz.f117) (by kernel_rfl) (by kernel_rfl)
noncomputable def s125 : SC (Tryz.f125.body.getD .skip) := SC.mk' (by simp only [Tryz.f125, go_sem]; rfl)
noncomputable def fun125 : Fun := ⟨[0, 4, 1, 3, 10, 2], [1], [], 1, s125.1, [.tmp 2], 0⟩
theorem ok125 : FnM Tryz.prog 125 fun125 := SC.okM s125 rfl (fn := Tryz.f125) (by kernel_rfl) (by kernel_rfl)
noncomputable def s126 : SC (Tryz.f126.body.getD .skip) := SC.mk' (by simp only [Tryz.f126, go_sem]; rfl)
noncomputable def fun126 : Fun := ⟨[0, 1, 2, 3, 8, 20, 6], [3], [], 3, s126.1, [.tmp 6], 0⟩
theorem ok126 : FnM Tryz.prog 126 fun126 := SC.okM s126 rfl (fn := Tryz.f126) (by kernel_rfl) (by kernel_rfl)
noncomputable def s130 : SC (Tryz.f130.body.getD .skip) := SC.mk' (by simp only [Tryz.f130, go_sem]; rfl)
noncomputable def fun130 : Fun := ⟨[0, 1, 2, 3, 4, 8, 18, 35, 11, 45, 48, 9, 10], [4, 8], [], 4, s130.1, [.cell 8 true 11, .tmp 9, .tmp 10], 1⟩
theorem ok130 : FnM Tryz.prog 130 fun130 := SC.okM s130 rfl (fn := Tryz.f130) (by kernel_rfl) (by kernel_rfl)
noncomputable def s132 : SC (Tryz.f132.body.getD .skip) := SC.mk' (by simp only [Tryz.f132, go_sem]; rfl)
noncomputable def fun132 : Fun := ⟨[0, 5, 11, 3, 2], [], [], 1, s132.1, [.tmp 2], 1⟩
theorem ok132 : FnM Tryz.prog 132 fun132 := SC.okM s132 rfl (fn := Tryz.f132) (by kernel_rfl) (by kernel_rfl)
noncomputable def s134 : SC (Tryz.f134.body.getD .skip) := SC.mk' (by simp only [Tryz.f134, go_sem]; rfl)
noncomputable def fun134 : Fun := ⟨[0, 1, 2, 4, 12, 6, 7, 11, 13, 3, 26, 8, 9, 10], [3, 4, 6, 7, 11, 12], [], 3, s134.1, [.cell 6 true 11, .cell 7 true 63, .tmp 8, .tmp 9, .tmp 10], 13⟩
theorem ok134 : FnM Tryz.prog 134 fun134 := SC.okM s134 rfl (fn := Tryz.f134) (by kernel_rfl) (by kernel_rfl)
noncomputable def s135 : SC (Tryz.f135.body.getD .skip) := SC.mk' (by simp only [Tryz.f135, go_sem]; rfl)
noncomputable def fun135 : Fun := ⟨[0, 1, 4, 5, 6, 2, 7, 9, 25, 37, 52, 3], [1, 2, 4, 5, 6, 7, 9], [65, 73, 78, 118], 1, s135.1, [.cell 2 true 63, .tmp 3], 10⟩
theorem ok135 : FnM Tryz.prog 135 fun135 := SC.okM s135 rfl (fn := Tryz.f135) (by kernel_rfl) (by kernel_rfl)
noncomputable def s154 : SC (Tryz.f154.body.getD .skip) := SC.mk' (by simp only [Tryz.f154, go_sem]; rfl)
noncomputable def fun154 : Fun := ⟨[0, 1, 2, 3, 4], [2, 3, 4], [], 2, s154.1, [.cell 4 true 63], 4⟩
theorem ok154 : FnM Tryz.prog 154 fun154 := SC.okM s154 rfl (fn := Tryz.f154) (by kernel_rfl) (by kernel_rfl)
noncomputable def s159 : SC (Tryz.f159.body.getD .skip) := SC.mk' (by simp only [Tryz.f159, go_sem]; rfl)
noncomputable def fun159 : Fun := ⟨[0, 1, 2, 6], [], [], 3, s159.1, [.tmp 6], 0⟩
theorem ok159 : FnM Tryz.prog 159 fun159 := SC.okM s159 rfl (fn := Tryz.f159) (by kernel_rfl) (by kernel_rfl)
noncomputable def s161 : SC (Tryz.f161.body.getD .skip) := SC.mk' (by simp only [Tryz.f161, go_sem]; rfl)
noncomputable def fun161 : Fun := ⟨[0, 6, 1, 4, 7, 2, 5, 32, 56, 3], [1, 2, 4, 6], [], 1, s161.1, [.cell 2 true 10, .tmp 3], 12⟩
theorem ok161 : FnM Tryz.prog 161 fun161 := SC.okM s161 rfl (fn := Tryz.f161) (by kernel_rfl) (by kernel_rfl)
noncomputable def s162 : SC (Tryz.f162.body.getD .skip) := SC.mk' (by simp only [Tryz.f162, go_sem]; rfl)
noncomputable def fun162 : Fun := ⟨[0, 1, 2, 3, 6, 35, 7], [3, 6], [], 3, s162.1, [.cell 6 true 2, .tmp 7], 0⟩
theorem ok162 : FnM Tryz.prog 162 fun162 := SC.okM s162 rfl (fn := Tryz.f162) (by kernel_rfl) (by kernel_rfl)
noncomputable def s166 : SC (Tryz.f166.body.getD .skip) := SC.mk' (by simp only [Tryz.f166, go_sem]; rfl)
noncomputable def fun166 : Fun := ⟨[0, 2], [], [], 1, s166.1, [.tmp 2], 1⟩
theorem ok166 : FnM Tryz.prog 166 fun166 := SC.okM s166 rfl (fn := Tryz.f166) (by kernel_rfl) (by kernel_rfl)
noncomputable def s167 : SC (Tryz.f167.body.getD .skip) := SC.mk' (by simp only [Tryz.f167, go_sem]; rfl)
noncomputable def fun167 : Fun := ⟨[0, 1, 8, 5, 7, 9, 16, 4], [], [], 2, s167.1, [.tmp 4], 1⟩
theorem ok167 : FnM Tryz.prog 167 fun167 := SC.okM s167 rfl (fn := Tryz.f167) (by kernel_rfl) (by kernel_rfl)
noncomputable def s168 : SC (Tryz.f168.body.getD .skip) := SC.mk' (by simp only [Tryz.f168, go_sem]; rfl)
noncomputable def fun168 : Fun := ⟨[0, 1, 2, 3], [2], [], 2, s168.1, [.tmp 3], 0⟩
theorem ok168 : FnM Tryz.prog 168 fun168 := SC.okM s168 rfl (fn := Tryz.f168) (by kernel_rfl) (by kernel_rfl)
noncomputable def s171 : SC (Tryz.f171.body.getD .skip) := SC.mk' (by simp only [Tryz.f171, go_sem]; rfl)
noncomputable def fun171 : Fun := ⟨[0, 3, 8, 7, 4, 5, 22, 38, 6, 78, 92, 112, 145, 2], [5, 7], [54], 1, s171.1, [.tmp 2], 9⟩
theorem ok171 : FnM Tryz.prog 171 fun171 := SC.okM s171 rfl (fn := Tryz.f171) (by kernel_rfl) (by kernel_rfl)
noncomputable def s174 : SC (Tryz.f174.body.getD .skip) := SC.mk' (by simp only [Tryz.f174, go_sem]; rfl)
noncomputable def fun174 : Fun := ⟨[0, 3, 4, 5, 6, 28, 50, 60, 86, 114, 133, 139, 153, 2], [3], [], 1, s174.1, [.tmp 2], 8⟩
theorem ok174 : FnM Tryz.prog 174 fun174 := SC.okM s174 rfl (fn := Tryz.f174) (by kernel_rfl) (by kernel_rfl)
noncomputable def s178 : SC (Tryz.f178.body.getD .skip) := SC.mk' (by simp only [Tryz.f178, go_sem]; rfl)
noncomputable def fun178 : Fun := ⟨[0, 1, 5, 2, 9, 12, 4], [2], [], 2, s178.1, [.tmp 4], 8⟩
theorem ok178 : FnM Tryz.prog 178 fun178 := SC.okM s178 rfl (fn := Tryz.f178) (by kernel_rfl) (by kernel_rfl)
noncomputable def s182 : SC (Tryz.f182.body.getD .skip) := SC.mk' (by simp only [Tryz.f182, go_sem]; rfl)
noncomputable def fun182 : Fun := ⟨[0, 1, 2, 4, 5, 7, 8, 9, 19, 6], [2, 4, 5, 7, 8], [], 2, s182.1, [.cell 4 true 8, .cell 5 true 7, .tmp 6], 8⟩
theorem ok182 : FnM Tryz.prog 182 fun182 := SC.okM s182 rfl (fn := Tryz.f182) (by kernel_rfl) (by kernel_rfl)
noncomputable def s187 : SC (Tryz.f187.body.getD .skip) := SC.mk' (by simp only [Tryz.f187, go_sem]; rfl)
noncomputable def fun187 : Fun := ⟨[0, 2], [], [], 1, s187.1, [.tmp 2], 1⟩
theorem ok187 : FnM Tryz.prog 187 fun187 := SC.okM s187 rfl (fn := Tryz.f187) (by kernel_rfl) (by kernel_rfl)
noncomputable def s190 : SC (Tryz.f190.body.getD .skip) := SC.mk' (by simp only [Tryz.f190, go_sem]; rfl)
noncomputable def fun190 : Fun := ⟨[0, 1, 8, 5, 7, 9, 16, 4], [], [], 2, s190.1, [.tmp 4], 0⟩
theorem ok190 : FnM Tryz.prog 190 fun190 := SC.okM s190 rfl (fn := Tryz.f190) (by kernel_rfl) (by kernel_rfl)
noncomputable def s195 : SC (Tryz.f195.body.getD .skip) := SC.mk' (by simp only [Tryz.f195, go_sem]; rfl)
noncomputable def fun195 : Fun := ⟨[0, 1, 2, 3, 8, 9, 11, 12, 13, 4, 5, 24, 10], [4, 5, 8, 9, 11, 12], [], 4, s195.1, [.cell 8 true 11, .cell 9 true 26, .tmp 10], 12⟩
theorem ok195 : FnM Tryz.prog 195 fun195 := SC.okM s195 rfl (fn := Tryz.f195) (by kernel_rfl) (by kernel_rfl)
noncomputable def s197 : SC (Tryz.f197.body.getD .skip) := SC.mk' (by simp only [Tryz.f197, go_sem]; rfl)
noncomputable def fun197 : Fun := ⟨[0, 1, 5, 2, 4], [2, 4, 5], [], 2, s197.1, [.cell 4 true 10], 0⟩
theorem ok197 : FnM Tryz.prog 197 fun197 := SC.okM s197 rfl (fn := Tryz.f197) (by kernel_rfl) (by kernel_rfl)
noncomputable def s200 : SC (Tryz.f200.body.getD .skip) := SC.mk' (by simp only [Tryz.f200, go_sem]; rfl)
noncomputable def fun200 : Fun := ⟨[0, 1, 2, 3, 4, 12, 10, 13, 23, 11], [10, 12], [], 5, s200.1, [.cell 10 true 7, .tmp 11], 2⟩
theorem ok200 : FnM Tryz.prog 200 fun200 := SC.okM s200 rfl (fn := Tryz.f200) (by kernel_rfl) (by kernel_rfl)
noncomputable def s201 : SC (Tryz.f201.body.getD .skip) := SC.mk' (by simp only [Tryz.f201, go_sem]; rfl)
noncomputable def fun201 : Fun := ⟨[0, 1, 2, 25, 33, 6], [], [], 3, s201.1, [.tmp 6], 0⟩
theorem ok201 : FnM Tryz.prog 201 fun201 := SC.okM s201 rfl (fn := Tryz.f201) (by kernel_rfl) (by kernel_rfl)
noncomputable def s202 : SC (Tryz.f202.body.getD .skip) := SC.mk' (by simp only [Tryz.f202, go_sem]; rfl)
noncomputable def fun202 : Fun := ⟨[0, 1, 2, 4, 3, 6, 7, 11, 17, 20, 34, 43, 5], [2, 3, 4], [], 2, s202.1, [.cell 4 true 8, .tmp 5], 9⟩
theorem ok202 : FnM Tryz.prog 202 fun202 := SC.okM s202 rfl (fn := Tryz.f202) (by kernel_rfl) (by kernel_rfl)
noncomputable def s238 : SC (Tryz.f238.body.getD .skip) := SC.mk' (by simp only [Tryz.f238, go_sem]; rfl)
noncomputable def fun238 : Fun := ⟨[0, 1, 2], [], [], 1, s238.1, [.tmp 2], 8⟩
theorem ok238 : FnM Tryz.prog 238 fun238 := SC.okM s238 rfl (fn := Tryz.f238) (by kernel_rfl) (by kernel_rfl)
noncomputable def s239 : SC (Tryz.f239.body.getD .skip) := SC.mk' (by simp only [Tryz.f239, go_sem]; rfl)
noncomputable def fun239 : Fun := ⟨[0, 1], [], [], 2, s239.1, [], 0⟩
theorem ok239 : FnM Tryz.prog 239 fun239 := SC.okM s239 rfl (fn := Tryz.f239) (by kernel_rfl) (by kernel_rfl)
noncomputable def s241 : SC (Tryz.f241.body.getD .skip) := SC.mk' (by simp only [Tryz.f241, go_sem]; rfl)
noncomputable def fun241 : Fun := ⟨[0, 2], [], [], 1, s241.1, [.tmp 2], 0⟩
theorem ok241 : FnM Tryz.prog 241 fun241 := SC.okM s241 rfl (fn := Tryz.f241) (by kernel_rfl) (by kernel_rfl)
noncomputable def s243 : SC (Tryz.f243.body.getD .skip) := SC.mk' (by simp only [Tryz.f243, go_sem]; rfl)
noncomputable def fun243 : Fun := ⟨[0, 1, 2, 3, 4, 7, 8, 30, 10, 18, 29, 31, 12, 35, 42, 9], [4, 7, 8], [], 4, s243.1, [.cell 8 true 11, .tmp 9], 3⟩
theorem ok243 : FnM Tryz.prog 243 fun243 := SC.okM s243 rfl (fn := Tryz.f243) (by kernel_rfl) (by kernel_rfl)
noncomputable def s244 : SC (Tryz.f244.body.getD .skip) := SC.mk' (by simp only [Tryz.f244, go_sem]; rfl)
noncomputable def fun244 : Fun := ⟨[0, 4, 2], [], [], 1, s244.1, [.tmp 2], 0⟩
theorem ok244 : FnM Tryz.prog 244 fun244 := SC.okM s244 rfl (fn := Tryz.f244) (by kernel_rfl) (by kernel_rfl)
noncomputable def s248 : SC (Tryz.f248.body.getD .skip) := SC.mk' (by simp only [Tryz.f248, go_sem]; rfl)
noncomputable def fun248 : Fun := ⟨[0, 1, 2, 4, 6, 11, 3, 8, 9, 13, 22, 33, 44, 48, 52, 7], [3, 4, 6], [], 3, s248.1, [.cell 6 true 4, .tmp 7], 1⟩
theorem ok248 : FnM Tryz.prog 248 fun248 := SC.okM s248 rfl (fn := Tryz.f248) (by kernel_rfl) (by kernel_rfl)
noncomputable def s257 : SC (Tryz.f257.body.getD .skip) := SC.mk' (by simp only [Tryz.f257, go_sem]; rfl)
noncomputable def fun257 : Fun := ⟨[0, 1, 4], [], [], 2, s257.1, [.tmp 4], 0⟩
theorem ok257 : FnM Tryz.prog 257 fun257 := SC.okM s257 rfl (fn := Tryz.f257) (by kernel_rfl) (by kernel_rfl)
noncomputable def s263 : SC (Tryz.f263.body.getD .skip) := SC.mk' (by simp only [Tryz.f263, go_sem]; rfl)
noncomputable def fun263 : Fun := ⟨[0, 1, 2, 3, 5, 6, 10, 15, 17, 24, 4], [2, 3], [], 2, s263.1, [.tmp 4], 3⟩
theorem ok263 : FnM Tryz.prog 263 fun263 := SC.okM s263 rfl (fn := Tryz.f263) (by kernel_rfl) (by kernel_rfl)
noncomputable def s265 : SC (Tryz.f265.body.getD .skip) := SC.mk' (by simp only [Tryz.f265, go_sem]; rfl)
noncomputable def fun265 : Fun := ⟨[0, 1, 2, 4], [2], [], 2, s265.1, [.tmp 4], 0⟩
theorem ok265 : FnM Tryz.prog 265 fun265 := SC.okM s265 rfl (fn := Tryz.f265) (by kernel_rfl) (by kernel_rfl)
noncomputable def s268 : SC (Tryz.f268.body.getD .skip) := SC.mk' (by simp only [Tryz.f268, go_sem]; rfl)
noncomputable def fun268 : Fun := ⟨[0, 4, 2], [], [], 1, s268.1, [.tmp 2], 0⟩
theorem ok268 : FnM Tryz.prog 268 fun268 := SC.okM s268 rfl (fn := Tryz.f268) (by kernel_rfl) (by kernel_rfl)
noncomputable def s276 : SC (Tryz.f276.body.getD .skip) := SC.mk' (by simp only [Tryz.f276, go_sem]; rfl)
noncomputable def fun276 : Fun := ⟨[0, 4, 2, 12, 17, 47, 3], [2], [], 1, s276.1, [.cell 2 true 5, .tmp 3], 0⟩
theorem ok276 : FnM Tryz.prog 276 fun276 := SC.okM s276 rfl (fn := Tryz.f276) (by kernel_rfl) (by kernel_rfl)
noncomputable def s286 : SC (Tryz.f286.body.getD .skip) := SC.mk' (by simp only [Tryz.f286, go_sem]; rfl)
noncomputable def fun286 : Fun := ⟨[0, 1, 2, 4], [2], [], 2, s286.1, [.tmp 4], 0⟩
theorem ok286 : FnM Tryz.prog 286 fun286 := SC.okM s286 rfl (fn := Tryz.f286) (by kernel_rfl) (by kernel_rfl)
noncomputable def s289 : SC (Tryz.f289.body.getD .skip) := SC.mk' (by simp only [Tryz.f289, go_sem]; rfl)
noncomputable def fun289 : Fun := ⟨[0, 1, 3, 2, 4, 5, 11, 7, 6], [2, 3, 4, 5], [], 2, s289.1, [.cell 4 true 11, .cell 5 true 26, .tmp 6], 2⟩
theorem ok289 : FnM Tryz.prog 289 fun289 := SC.okM s289 rfl (fn := Tryz.f289) (by kernel_rfl) (by kernel_rfl)
noncomputable def s291 : SC (Tryz.f291.body.getD .skip) := SC.mk' (by simp only [Tryz.f291, go_sem]; rfl)
noncomputable def fun291 : Fun := ⟨[0, 2], [], [], 1, s291.1, [.tmp 2], 0⟩
theorem ok291 : FnM Tryz.prog 291 fun291 := SC.okM s291 rfl (fn := Tryz.f291) (by kernel_rfl) (by kernel_rfl)
noncomputable def s304 : SC (Tryz.f304.body.getD .skip) := SC.mk' (by simp only [Tryz.f304, go_sem]; rfl)
noncomputable def fun304 : Fun := ⟨[0, 2], [], [], 1, s304.1, [.tmp 2], 0⟩
theorem ok304 : FnM Tryz.prog 304 fun304 := SC.okM s304 rfl (fn := Tryz.f304) (by kernel_rfl) (by kernel_rfl)
noncomputable def s308 : SC (Tryz.f308.body.getD .skip) := SC.mk' (by simp only [Tryz.f308, go_sem]; rfl)
noncomputable def fun308 : Fun := ⟨[0, 1, 2, 6, 7, 11, 15, 4, 5], [2], [], 2, s308.1, [.tmp 4, .tmp 5], 0⟩
theorem ok308 : FnM Tryz.prog 308 fun308 := SC.okM s308 rfl (fn := Tryz.f308) (by kernel_rfl) (by kernel_rfl)
noncomputable def s316 : SC (Tryz.f316.body.getD .skip) := SC.mk' (by simp only [Tryz.f316, go_sem]; rfl)
noncomputable def fun316 : Fun := ⟨[0, 1, 2, 3, 24, 9, 45, 6, 7, 22, 43, 11, 19, 23, 25, 37, 44, 46, 53], [3, 9, 11], [], 3, s316.1, [.tmp 6, .tmp 7], 9⟩
theorem ok316 : FnM Tryz.prog 316 fun316 := SC.okM s316 rfl (fn := Tryz.f316) (by kernel_rfl) (by kernel_rfl)
noncomputable def s317 : SC (Tryz.f317.body.getD .skip) := SC.mk' (by simp only [Tryz.f317, go_sem]; rfl)
noncomputable def fun317 : Fun := ⟨[0, 1, 7, 3, 6, 8, 4, 2], [1], [], 1, s317.1, [.tmp 2], 1⟩
theorem ok317 : FnM Tryz.prog 317 fun317 := SC.okM s317 rfl (fn := Tryz.f317) (by kernel_rfl) (by kernel_rfl)
noncomputable def s318 : SC (Tryz.f318.body.getD .skip) := SC.mk' (by simp only [Tryz.f318, go_sem]; rfl)
noncomputable def fun318 : Fun := ⟨[0, 1, 38, 42, 2], [1], [], 1, s318.1, [.tmp 2], 1⟩
theorem ok318 : FnM Tryz.prog 318 fun318 := SC.okM s318 rfl (fn := Tryz.f318) (by kernel_rfl) (by kernel_rfl)
noncomputable def s322 : SC (Tryz.f322.body.getD .skip) := SC.mk' (by simp only [Tryz.f322, go_sem]; rfl)
noncomputable def fun322 : Fun := ⟨[0, 1, 4], [], [], 2, s322.1, [.tmp 4], 1⟩
theorem ok322 : FnM Tryz.prog 322 fun322 := SC.okM s322 rfl (fn := Tryz.f322) (by kernel_rfl) (by kernel_rfl)
noncomputable def s330 : SC (Tryz.f330.body.getD .skip) := SC.mk' (by simp only [Tryz.f330, go_sem]; rfl)
noncomputable def fun330 : Fun := ⟨[0, 1, 5, 15, 4], [], [], 2, s330.1, [.tmp 4], 4⟩
theorem ok330 : FnM Tryz.prog 330 fun330 := SC.okM s330 rfl (fn := Tryz.f330) (by kernel_rfl) (by kernel_rfl)
noncomputable def s333 : SC (Tryz.f333.body.getD .skip) := SC.mk' (by simp only [Tryz.f333, go_sem]; rfl)
noncomputable def fun333 : Fun := ⟨[0, 1, 2, 4, 3, 14, 6, 7, 9, 13, 10, 11, 27, 12, 58, 93, 8], [3, 4, 6, 7, 11, 13], [36, 66], 3, s333.1, [.cell 6 true 11, .cell 7 true 26, .tmp 8], 3⟩
theorem ok333 : FnM Tryz.prog 333 fun333 := SC.okM s333 rfl (fn := Tryz.f333) (by kernel_rfl) (by kernel_rfl)
noncomputable def s336 : SC (Tryz.f336.body.getD .skip) := SC.mk' (by simp only [Tryz.f336, go_sem]; rfl)
noncomputable def fun336 : Fun := ⟨[0, 1, 2, 4, 3, 6, 7, 9, 10, 11, 29, 53, 67, 79, 8], [3, 4, 6, 7], [], 3, s336.1, [.cell 6 true 11, .cell 7 true 26, .tmp 8], 8⟩
theorem ok336 : FnM Tryz.prog 336 fun336 := SC.okM s336 rfl (fn := Tryz.f336) (by kernel_rfl) (by kernel_rfl)
noncomputable def s351 : SC (Tryz.f351.body.getD .skip) := SC.mk' (by simp only [Tryz.f351, go_sem]; rfl)
noncomputable def fun351 : Fun := ⟨[0, 1, 18, 8, 5, 6, 16, 11, 17, 19, 25, 4], [8], [], 2, s351.1, [.tmp 4], 9⟩
theorem ok351 : FnM Tryz.prog 351 fun351 := SC.okM s351 rfl (fn := Tryz.f351) (by kernel_rfl) (by kernel_rfl)
noncomputable def s353 : SC (Tryz.f353.body.getD .skip) := SC.mk' (by simp only [Tryz.f353, go_sem]; rfl)
noncomputable def fun353 : Fun := ⟨[0, 1, 2, 4, 5, 7, 8, 9, 13, 21, 6], [2, 4, 5, 9], [], 2, s353.1, [.cell 4 true 3, .cell 5 true 7, .tmp 6], 3⟩
theorem ok353 : FnM Tryz.prog 353 fun353 := SC.okM s353 rfl (fn := Tryz.f353) (by kernel_rfl) (by kernel_rfl)
noncomputable def s354 : SC (Tryz.f354.body.getD .skip) := SC.mk' (by simp only [Tryz.f354, go_sem]; rfl)
noncomputable def fun354 : Fun := ⟨[0, 1, 2, 4, 8, 11, 16, 3], [1, 2], [], 1, s354.1, [.cell 2 true 7, .tmp 3], 2⟩
theorem ok354 : FnM Tryz.prog 354 fun354 := SC.okM s354 rfl (fn := Tryz.f354) (by kernel_rfl) (by kernel_rfl)
noncomputable def s358 : SC (Tryz.f358.body.getD .skip) := SC.mk' (by simp only [Tryz.f358, go_sem]; rfl)
noncomputable def fun358 : Fun := ⟨[0, 1, 8, 5, 7, 9, 16, 4], [], [], 2, s358.1, [.tmp 4], 6⟩
theorem ok358 : FnM Tryz.prog 358 fun358 := SC.okM s358 rfl (fn := Tryz.f358) (by kernel_rfl) (by kernel_rfl)
noncomputable def s363 : SC (Tryz.f363.body.getD .skip) := SC.mk' (by simp only [Tryz.f363, go_sem]; rfl)
noncomputable def fun363 : Fun := ⟨[0, 1, 2, 6], [], [], 3, s363.1, [.tmp 6], 0⟩
theorem ok363 : FnM Tryz.prog 363 fun363 := SC.okM s363 rfl (fn := Tryz.f363) (by kernel_rfl) (by kernel_rfl)
noncomputable def s364 : SC (Tryz.f364.body.getD .skip) := SC.mk' (by simp only [Tryz.f364, go_sem]; rfl)
noncomputable def fun364 : Fun := ⟨[0, 1, 4], [], [], 2, s364.1, [.tmp 4], 3⟩
theorem ok364 : FnM Tryz.prog 364 fun364 := SC.okM s364 rfl (fn := Tryz.f364) (by kernel_rfl) (by kernel_rfl)
noncomputable def s365 : SC (Tryz.f365.body.getD .skip) := SC.mk' (by simp only [Tryz.f365, go_sem]; rfl)
noncomputable def fun365 : Fun := ⟨[0, 1, 2], [1], [], 1, s365.1, [.tmp 2], 1⟩
theorem ok365 : FnM Tryz.prog 365 fun365 := SC.okM s365 rfl (fn := Tryz.f365) (by kernel_rfl) (by kernel_rfl)
noncomputable def s367 : SC (Tryz.f367.body.getD .skip) := SC.mk' (by simp only [Tryz.f367, go_sem]; rfl)
noncomputable def fun367 : Fun := ⟨[0, 1, 3, 4], [3], [], 2, s367.1, [.tmp 4], 1⟩
theorem ok367 : FnM Tryz.prog 367 fun367 := SC.okM s367 rfl (fn := Tryz.f367) (by kernel_rfl) (by kernel_rfl)
noncomputable def s368 : SC (Tryz.f368.body.getD .skip) := SC.mk' (by simp only [Tryz.f368, go_sem]; rfl)
noncomputable def fun368 : Fun := ⟨[0, 1, 2, 16, 7, 6], [], [], 3, s368.1, [.tmp 6], 0⟩
theorem ok368 : FnM Tryz.prog 368 fun368 := SC.okM s368 rfl (fn := Tryz.f368) (by kernel_rfl) (by kernel_rfl)
noncomputable def s370 : SC (Tryz.f370.body.getD .skip) := SC.mk' (by simp only [Tryz.f370, go_sem]; rfl)
noncomputable def fun370 : Fun := ⟨[0, 1, 2, 3], [2], [], 2, s370.1, [.tmp 3], 0⟩
theorem ok370 : FnM Tryz.prog 370 fun370 := SC.okM s370 rfl (fn := Tryz.f370) (by kernel_rfl) (by kernel_rfl)
noncomputable def s371 : SC (Tryz.f371.body.getD .skip) := SC.mk' (by simp only [Tryz.f371, go_sem]; rfl)
noncomputable def fun371 : Fun := ⟨[0, 2], [], [], 1, s371.1, [.tmp 2], 0⟩
theorem ok371 : FnM Tryz.prog 371 fun371 := SC.okM s371 rfl (fn := Tryz.f371) (by kernel_rfl) (by kernel_rfl)
noncomputable def s376 : SC (Tryz.f376.body.getD .skip) := SC.mk' (by simp only [Tryz.f376, go_sem]; rfl)
noncomputable def fun376 : Fun := ⟨[0, 1, 2, 3, 6, 21, 27, 7], [3, 6], [], 3, s376.1, [.cell 6 true 11, .tmp 7], 1⟩
theorem ok376 : FnM Tryz.prog 376 fun376 := SC.okM s376 rfl (fn := Tryz.f376) (by kernel_rfl) (by kernel_rfl)
noncomputable def s377 : SC (Tryz.f377.body.getD .skip) := SC.mk' (by simp only [Tryz.f377, go_sem]; rfl)
noncomputable def fun377 : Fun := ⟨[0, 1, 2, 4, 14, 20, 3], [1, 2], [], 1, s377.1, [.cell 2 true 4, .tmp 3], 0⟩
theorem ok377 : FnM Tryz.prog 377 fun377 := SC.okM s377 rfl (fn := Tryz.f377) (by kernel_rfl) (by kernel_rfl)
noncomputable def s382 : SC (Tryz.f382.body.getD .skip) := SC.mk' (by simp only [Tryz.f382, go_sem]; rfl)
noncomputable def fun382 : Fun := ⟨[0, 1, 2, 3, 4, 8, 7, 10, 11, 17, 23, 39, 9], [4, 7, 8], [], 4, s382.1, [.cell 8 true 11, .tmp 9], 7⟩
theorem ok382 : FnM Tryz.prog 382 fun382 := SC.okM s382 rfl (fn := Tryz.f382) (by kernel_rfl) (by kernel_rfl)
noncomputable def s390 : SC (Tryz.f390.body.getD .skip) := SC.mk' (by simp only [Tryz.f390, go_sem]; rfl)
noncomputable def fun390 : Fun := ⟨[0, 1, 4], [], [], 2, s390.1, [], 8⟩
theorem ok390 : FnM Tryz.prog 390 fun390 := SC.okM s390 rfl (fn := Tryz.f390) (by kernel_rfl) (by kernel_rfl)
noncomputable def s394 : SC (Tryz.f394.body.getD .skip) := SC.mk' (by simp only [Tryz.f394, go_sem]; rfl)
noncomputable def fun394 : Fun := ⟨[0, 1, 2, 6, 16, 4, 5], [2], [], 2, s394.1, [.tmp 4, .tmp 5], 0⟩
theorem ok394 : FnM Tryz.prog 394 fun394 := SC.okM s394 rfl (fn := Tryz.f394) (by kernel_rfl) (by kernel_rfl)
noncomputable def s398 : SC (Tryz.f398.body.getD .skip) := SC.mk' (by simp only [Tryz.f398, go_sem]; rfl)
noncomputable def fun398 : Fun := ⟨[0, 1, 8, 5, 3, 7, 9, 16, 4], [3], [], 2, s398.1, [.tmp 4], 0⟩
theorem ok398 : FnM Tryz.prog 398 fun398 := SC.okM s398 rfl (fn := Tryz.f398) (by kernel_rfl) (by kernel_rfl)
noncomputable def s403 : SC (Tryz.f403.body.getD .skip) := SC.mk' (by simp only [Tryz.f403, go_sem]; rfl)
noncomputable def fun403 : Fun := ⟨[0, 1, 2, 12, 3, 10, 13, 8, 9, 11, 26, 34, 52, 58, 67, 6, 7], [3], [], 3, s403.1, [.tmp 6, .tmp 7], 8⟩
theorem ok403 : FnM Tryz.prog 403 fun403 := SC.okM s403 rfl (fn := Tryz.f403) (by kernel_rfl) (by kernel_rfl)
end Go.M
