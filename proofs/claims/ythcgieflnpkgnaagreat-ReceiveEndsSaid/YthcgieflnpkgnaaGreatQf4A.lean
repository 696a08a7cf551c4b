/-
  The codes of functions, as the machine takes them.
  No condition: definitions and lemmas.
-/
import Derived.Test.YthcgieflnpkgnaaGreatQtyA
set_option linter.all false
set_option maxRecDepth 100000
set_option maxHeartbeats 4000000
namespace Go.M
open Go Go.Proofs
open Go.Eng (SOp SOper SCode sizeP aggP zerosOf bytesP zeroVal stripCode stripOps stripOper strip stripParts kindsOf)

noncomputable def s7 : SC (Tryz.f7.body.getD .skip) := SC.mk' (by simp only [Tryz.f7, go_sem]; rfl)
noncomputable def fun7 : Fun := ⟨[0, 1, 6, 7, 4, 8, 2, 57, 78, 90, 3], [1, 2, 4, 6, 8], [], 1, s7.1, [.cell 2 true 11, .tmp 3], 2⟩
theorem ok7 : FnM Tryz.prog 7 fun7 := SC.okM s7 rfl (fn := Tryz.f7) (by kernel_rfl) (by kernel_rfl)
noncomputable def s38 : SC (Tryz.f38.body.getD .skip) := SC.mk' (by simp only [Tryz.f38, go_sem]; rfl)
noncomputable def fun38 : Fun := ⟨[0, 1, 2, 4, 7, 8, 9, 3, 19, 36, 5, 6], [2, 3, 4, 8], [], 2, s38.1, [.cell 4 true 23, .tmp 5, .tmp 6], 4⟩
theorem ok38 : FnM Tryz.prog 38 fun38 := SC.okM s38 rfl (fn := Tryz.f38) (by kernel_rfl) (by kernel_rfl)
noncomputable def s46 : SC (Tryz.f46.body.getD .skip) := SC.mk' (by simp only [Tryz.f46, go_sem]; rfl)
noncomputable def fun46 : Fun := ⟨[0, 1, 2, 3, 4], [2, 3], [], 2, s46.1, [.tmp 4], 1⟩
theorem ok46 : FnM Tryz.prog 46 fun46 := SC.okM s46 rfl (fn := Tryz.f46) (by kernel_rfl) (by kernel_rfl)
noncomputable def s63 : SC (Tryz.f63.body.getD .skip) := SC.mk' (by simp only [Tryz.f63, go_sem]; rfl)
noncomputable def fun63 : Fun := ⟨[0, 1, 3, 5, 8, 4, 6, 7, 39, 44, 58, 64, 73, 78, 89, 2], [1], [], 1, s63.1, [.tmp 2], 2⟩
theorem ok63 : FnM Tryz.prog 63 fun63 := SC.okM s63 rfl (fn := Tryz.f63) (by kernel_rfl) (by kernel_rfl)
noncomputable def s81 : SC (Tryz.f81.body.getD .skip) := SC.mk' (by simp only [Tryz.f81, go_sem]; rfl)
noncomputable def fun81 : Fun := ⟨[0, 1, 2, 4, 3], [1, 2], [], 1, s81.1, [.cell 2 true 63, .tmp 3], 3⟩
theorem ok81 : FnM Tryz.prog 81 fun81 := SC.okM s81 rfl (fn := Tryz.f81) (by kernel_rfl) (by kernel_rfl)
noncomputable def s83 : SC (Tryz.f83.body.getD .skip) := SC.mk' (by simp only [Tryz.f83, go_sem]; rfl)
noncomputable def fun83 : Fun := ⟨[0, 1, 5, 10, 14, 25, 4], [], [], 2, s83.1, [.tmp 4], 0⟩
theorem ok83 : FnM Tryz.prog 83 fun83 := SC.okM s83 rfl (fn := Tryz.f83) (by kernel_rfl) (by kernel_rfl)
noncomputable def s85 : SC (Tryz.f85.body.getD .skip) := SC.mk' (by simp only [Tryz.f85, go_sem]; rfl)
noncomputable def fun85 : Fun := ⟨[0, 1, 2, 6], [], [], 3, s85.1, [.tmp 6], 0⟩
theorem ok85 : FnM Tryz.prog 85 fun85 := SC.okM s85 rfl (fn := Tryz.f85) (by kernel_rfl) (by kernel_rfl)
noncomputable def s106 : SC (Tryz.f106.body.getD .skip) := SC.mk' (by simp only [Tryz.f106, go_sem]; rfl)
noncomputable def fun106 : Fun := ⟨[0, 1, 2, 3, 4, 29, 7, 27, 10, 24, 28, 30, 6, 51, 61, 67, 5], [2, 3, 4], [], 2, s106.1, [.cell 4 true 26, .tmp 5], 3⟩
theorem ok106 : FnM Tryz.prog 106 fun106 := SC.okM s106 rfl (fn := Tryz.f106) (by kernel_rfl) (by kernel_rfl)
noncomputable def s111 : SC (Tryz.f111.body.getD .skip) := SC.mk' (by simp only [Tryz.f111, go_sem]; rfl)
noncomputable def fun111 : Fun := ⟨[0, 1, 2], [1], [], 1, s111.1, [.tmp 2], 5⟩
theorem ok111 : FnM Tryz.prog 111 fun111 := SC.okM s111 rfl (fn := Tryz.f111) (by kernel_rfl) (by kernel_rfl)
noncomputable def s127 : SC (Tryz.f127.body.getD .skip) := SC.mk' (by simp only [Tryz.f127, go_sem]; rfl)
noncomputable def fun127 : Fun := ⟨[0, 1, 4], [], [], 2, s127.1, [.tmp 4], 0⟩
theorem ok127 : FnM Tryz.prog 127 fun127 := SC.okM s127 rfl (fn := Tryz.f127) (by kernel_rfl) (by kernel_rfl)
noncomputable def s132 : SC (Tryz.f132.body.getD .skip) := SC.mk' (by simp only [Tryz.f132, go_sem]; rfl)
noncomputable def fun132 : Fun := ⟨[0, 2], [], [], 1, s132.1, [.tmp 2], 0⟩
theorem ok132 : FnM Tryz.prog 132 fun132 := SC.okM s132 rfl (fn := Tryz.f132) (by kernel_rfl) (by kernel_rfl)
noncomputable def s136 : SC (Tryz.f136.body.getD .skip) := SC.mk' (by simp only [Tryz.f136, go_sem]; rfl)
noncomputable def fun136 : Fun := ⟨[0, 1, 2, 9, 8, 26, 32, 6, 7], [], [], 3, s136.1, [.tmp 6, .tmp 7], 0⟩
theorem ok136 : FnM Tryz.prog 136 fun136 := SC.okM s136 rfl (fn := Tryz.f136) (by kernel_rfl) (by kernel_rfl)
noncomputable def s179 : SC (Tryz.f179.body.getD .skip) := SC.mk' (by simp only [Tryz.f179, go_sem]; rfl)
noncomputable def fun179 : Fun := ⟨[0, 1, 2, 3], [2], [], 2, s179.1, [.tmp 3], 0⟩
theorem ok179 : FnM Tryz.prog 179 fun179 := SC.okM s179 rfl (fn := Tryz.f179) (by kernel_rfl) (by kernel_rfl)
noncomputable def s192 : SC (Tryz.f192.body.getD .skip) := SC.mk' (by simp only [Tryz.f192, go_sem]; rfl)
noncomputable def fun192 : Fun := ⟨[0, 1, 9, 7, 8, 10, 6, 4], [], [], 2, s192.1, [.tmp 4], 0⟩
theorem ok192 : FnM Tryz.prog 192 fun192 := SC.okM s192 rfl (fn := Tryz.f192) (by kernel_rfl) (by kernel_rfl)
noncomputable def s196 : SC (Tryz.f196.body.getD .skip) := SC.mk' (by simp only [Tryz.f196, go_sem]; rfl)
noncomputable def fun196 : Fun := ⟨[0, 3, 4, 5, 6, 28, 44, 64, 95, 2], [5], [], 1, s196.1, [.tmp 2], 2⟩
theorem ok196 : FnM Tryz.prog 196 fun196 := SC.okM s196 rfl (fn := Tryz.f196) (by kernel_rfl) (by kernel_rfl)
noncomputable def s212 : SC (Tryz.f212.body.getD .skip) := SC.mk' (by simp only [Tryz.f212, go_sem]; rfl)
noncomputable def fun212 : Fun := ⟨[0, 1, 2, 3, 7, 4, 6, 36], [3, 4, 6, 7], [], 3, s212.1, [.cell 6 true 63], 1⟩
theorem ok212 : FnM Tryz.prog 212 fun212 := SC.okM s212 rfl (fn := Tryz.f212) (by kernel_rfl) (by kernel_rfl)
noncomputable def s213 : SC (Tryz.f213.body.getD .skip) := SC.mk' (by simp only [Tryz.f213, go_sem]; rfl)
noncomputable def fun213 : Fun := ⟨[0, 1, 2, 3, 4, 8, 18, 35, 11, 45, 48, 9, 10], [4, 8], [], 4, s213.1, [.cell 8 true 11, .tmp 9, .tmp 10], 1⟩
theorem ok213 : FnM Tryz.prog 213 fun213 := SC.okM s213 rfl (fn := Tryz.f213) (by kernel_rfl) (by kernel_rfl)
noncomputable def s217 : SC (Tryz.f217.body.getD .skip) := SC.mk' (by simp only [Tryz.f217, go_sem]; rfl)
noncomputable def fun217 : Fun := ⟨[0, 1, 4, 5, 6, 2, 7, 9, 25, 37, 52, 3], [1, 2, 4, 5, 6, 7, 9], [73, 78], 1, s217.1, [.cell 2 true 63, .tmp 3], 10⟩
theorem ok217 : FnM Tryz.prog 217 fun217 := SC.okM s217 rfl (fn := Tryz.f217) (by kernel_rfl) (by kernel_rfl)
noncomputable def s241 : SC (Tryz.f241.body.getD .skip) := SC.mk' (by simp only [Tryz.f241, go_sem]; rfl)
noncomputable def fun241 : Fun := ⟨[0, 2], [], [], 1, s241.1, [.tmp 2], 1⟩
theorem ok241 : FnM Tryz.prog 241 fun241 := SC.okM s241 rfl (fn := Tryz.f241) (by kernel_rfl) (by kernel_rfl)
noncomputable def s244 : SC (Tryz.f244.body.getD .skip) := SC.mk' (by simp only [Tryz.f244, go_sem]; rfl)
noncomputable def fun244 : Fun := ⟨[0, 2], [], [], 1, s244.1, [.tmp 2], 1⟩
theorem ok244 : FnM Tryz.prog 244 fun244 := SC.okM s244 rfl (fn := Tryz.f244) (by kernel_rfl) (by kernel_rfl)
noncomputable def s247 : SC (Tryz.f247.body.getD .skip) := SC.mk' (by simp only [Tryz.f247, go_sem]; rfl)
noncomputable def fun247 : Fun := ⟨[0, 2], [], [], 1, s247.1, [.tmp 2], 1⟩
theorem ok247 : FnM Tryz.prog 247 fun247 := SC.okM s247 rfl (fn := Tryz.f247) (by kernel_rfl) (by kernel_rfl)
noncomputable def s252 : SC (Tryz.f252.body.getD .skip) := SC.mk' (by simp only [Tryz.f252, go_sem]; rfl)
noncomputable def fun252 : Fun := ⟨[0, 1, 2], [1, 2], [], 1, s252.1, [.cell 2 true 8], 1⟩
theorem ok252 : FnM Tryz.prog 252 fun252 := SC.okM s252 rfl (fn := Tryz.f252) (by kernel_rfl) (by kernel_rfl)
noncomputable def s287 : SC (Tryz.f287.body.getD .skip) := SC.mk' (by simp only [Tryz.f287, go_sem]; rfl)
noncomputable def fun287 : Fun := ⟨[0, 1, 2, 4, 10, 16, 3], [1, 2], [], 1, s287.1, [.cell 2 true 4, .tmp 3], 1⟩
theorem ok287 : FnM Tryz.prog 287 fun287 := SC.okM s287 rfl (fn := Tryz.f287) (by kernel_rfl) (by kernel_rfl)
noncomputable def s289 : SC (Tryz.f289.body.getD .skip) := SC.mk' (by simp only [Tryz.f289, go_sem]; rfl)
noncomputable def fun289 : Fun := ⟨[0, 4, 2], [], [], 1, s289.1, [.tmp 2], 0⟩
theorem ok289 : FnM Tryz.prog 289 fun289 := SC.okM s289 rfl (fn := Tryz.f289) (by kernel_rfl) (by kernel_rfl)
noncomputable def s298 : SC (Tryz.f298.body.getD .skip) := SC.mk' (by simp only [Tryz.f298, go_sem]; rfl)
noncomputable def fun298 : Fun := ⟨[0, 1, 2, 3, 8, 11, 4, 5, 10, 12, 18, 27, 43, 9], [4, 5, 8, 11], [], 4, s298.1, [.cell 8 true 4, .tmp 9], 10⟩
theorem ok298 : FnM Tryz.prog 298 fun298 := SC.okM s298 rfl (fn := Tryz.f298) (by kernel_rfl) (by kernel_rfl)
noncomputable def s307 : SC (Tryz.f307.body.getD .skip) := SC.mk' (by simp only [Tryz.f307, go_sem]; rfl)
noncomputable def fun307 : Fun := ⟨[0, 1, 2, 3, 8, 9, 11, 12, 13, 4, 5, 24, 10], [4, 5, 8, 9, 11, 12], [], 4, s307.1, [.cell 8 true 11, .cell 9 true 26, .tmp 10], 12⟩
theorem ok307 : FnM Tryz.prog 307 fun307 := SC.okM s307 rfl (fn := Tryz.f307) (by kernel_rfl) (by kernel_rfl)
noncomputable def s309 : SC (Tryz.f309.body.getD .skip) := SC.mk' (by simp only [Tryz.f309, go_sem]; rfl)
noncomputable def fun309 : Fun := ⟨[0, 1, 5, 2, 4], [2, 4, 5], [], 2, s309.1, [.cell 4 true 10], 0⟩
theorem ok309 : FnM Tryz.prog 309 fun309 := SC.okM s309 rfl (fn := Tryz.f309) (by kernel_rfl) (by kernel_rfl)
noncomputable def s313 : SC (Tryz.f313.body.getD .skip) := SC.mk' (by simp only [Tryz.f313, go_sem]; rfl)
noncomputable def fun313 : Fun := ⟨[0, 1, 2, 3, 4, 12, 10, 13, 23, 11], [10, 12], [], 5, s313.1, [.cell 10 true 7, .tmp 11], 2⟩
theorem ok313 : FnM Tryz.prog 313 fun313 := SC.okM s313 rfl (fn := Tryz.f313) (by kernel_rfl) (by kernel_rfl)
noncomputable def s324 : SC (Tryz.f324.body.getD .skip) := SC.mk' (by simp only [Tryz.f324, go_sem]; rfl)
noncomputable def fun324 : Fun := ⟨[0, 1, 2, 4], [2], [], 2, s324.1, [.tmp 4], 0⟩
theorem ok324 : FnM Tryz.prog 324 fun324 := SC.okM s324 rfl (fn := Tryz.f324) (by kernel_rfl) (by kernel_rfl)
noncomputable def s359 : SC (Tryz.f359.body.getD .skip) := SC.mk' (by simp only [Tryz.f359, go_sem]; rfl)
noncomputable def fun359 : Fun := ⟨[0, 1, 2, 4, 5], [2], [], 2, s359.1, [.tmp 4, .tmp 5], 4⟩
theorem ok359 : FnM Tryz.prog 359 fun359 := SC.okM s359 rfl (fn := Tryz.f359) (by kernel_rfl) (by kernel_rfl)
noncomputable def s363 : SC (Tryz.f363.body.getD .skip) := SC.mk' (by simp only [Tryz.f363, go_sem]; rfl)
noncomputable def fun363 : Fun := ⟨[0, 1, 2, 3, 5, 9, 6], [], [], 3, s363.1, [.tmp 6], 10⟩
theorem ok363 : FnM Tryz.prog 363 fun363 := SC.okM s363 rfl (fn := Tryz.f363) (by kernel_rfl) (by kernel_rfl)
noncomputable def s365 : SC (Tryz.f365.body.getD .skip) := SC.mk' (by simp only [Tryz.f365, go_sem]; rfl)
noncomputable def fun365 : Fun := ⟨[0, 1, 2, 3, 6], [3], [], 3, s365.1, [.tmp 6], 1⟩
theorem ok365 : FnM Tryz.prog 365 fun365 := SC.okM s365 rfl (fn := Tryz.f365) (by kernel_rfl) (by kernel_rfl)
noncomputable def s390 : SC (Tryz.f390.body.getD .skip) := SC.mk' (by simp only [Tryz.f390, go_sem]; rfl)
noncomputable def fun390 : Fun := ⟨[0, 1, 2, 4, 3, 6, 7, 9, 20, 37, 54, 58, 8], [3, 4, 6, 7], [], 3, s390.1, [.cell 6 true 11, .cell 7 true 5, .tmp 8], 3⟩
theorem ok390 : FnM Tryz.prog 390 fun390 := SC.okM s390 rfl (fn := Tryz.f390) (by kernel_rfl) (by kernel_rfl)
noncomputable def s409 : SC (Tryz.f409.body.getD .skip) := SC.mk' (by simp only [Tryz.f409, go_sem]; rfl)
noncomputable def fun409 : Fun := ⟨[0, 1, 2, 3, 5, 4, 8, 9, 20, 12, 14, 17, 11, 13, 15, 16, 18, 21, 40, 46, 52, 61, 69, 87, 93, 102, 110, 119, 138, 10], [4, 5, 8, 9, 11, 12, 14, 16, 17], [], 4, s409.1, [.cell 8 true 11, .cell 9 true 26, .tmp 10], 11⟩
theorem ok409 : FnM Tryz.prog 409 fun409 := SC.okM s409 rfl (fn := Tryz.f409) (by kernel_rfl) (by kernel_rfl)
noncomputable def s421 : SC (Tryz.f421.body.getD .skip) := SC.mk' (by simp only [Tryz.f421, go_sem]; rfl)
noncomputable def fun421 : Fun := ⟨[0, 1, 2, 4], [2], [], 2, s421.1, [.tmp 4], 0⟩
theorem ok421 : FnM Tryz.prog 421 fun421 := SC.okM s421 rfl (fn := Tryz.f421) (by kernel_rfl) (by kernel_rfl)
noncomputable def s424 : SC (Tryz.f424.body.getD .skip) := SC.mk' (by simp only [Tryz.f424, go_sem]; rfl)
noncomputable def fun424 : Fun := ⟨[0, 1, 3, 2, 4, 5, 11, 7, 6], [2, 3, 4, 5], [], 2, s424.1, [.cell 4 true 11, .cell 5 true 26, .tmp 6], 2⟩
theorem ok424 : FnM Tryz.prog 424 fun424 := SC.okM s424 rfl (fn := Tryz.f424) (by kernel_rfl) (by kernel_rfl)
noncomputable def s443 : SC (Tryz.f443.body.getD .skip) := SC.mk' (by simp only [Tryz.f443, go_sem]; rfl)
noncomputable def fun443 : Fun := ⟨[0, 1, 2, 4, 5, 7, 8, 9, 13, 21, 6], [2, 4, 5, 9], [], 2, s443.1, [.cell 4 true 3, .cell 5 true 7, .tmp 6], 10⟩
theorem ok443 : FnM Tryz.prog 443 fun443 := SC.okM s443 rfl (fn := Tryz.f443) (by kernel_rfl) (by kernel_rfl)
noncomputable def s469 : SC (Tryz.f469.body.getD .skip) := SC.mk' (by simp only [Tryz.f469, go_sem]; rfl)
noncomputable def fun469 : Fun := ⟨[0, 1, 8, 5, 7, 9, 16, 4], [], [], 2, s469.1, [.tmp 4], 8⟩
theorem ok469 : FnM Tryz.prog 469 fun469 := SC.okM s469 rfl (fn := Tryz.f469) (by kernel_rfl) (by kernel_rfl)
noncomputable def s517 : SC (Tryz.f517.body.getD .skip) := SC.mk' (by simp only [Tryz.f517, go_sem]; rfl)
noncomputable def fun517 : Fun := ⟨[0, 1, 2, 3, 6, 21, 27, 7], [3, 6], [], 3, s517.1, [.cell 6 true 11, .tmp 7], 1⟩
theorem ok517 : FnM Tryz.prog 517 fun517 := SC.okM s517 rfl (fn := Tryz.f517) (by kernel_rfl) (by kernel_rfl)
noncomputable def s523 : SC (Tryz.f523.body.getD .skip) := SC.mk' (by simp only [Tryz.f523, go_sem]; rfl)
noncomputable def fun523 : Fun := ⟨[0, 1, 2, 3, 4, 8, 7, 10, 11, 17, 23, 39, 9], [4, 7, 8], [], 4, s523.1, [.cell 8 true 11, .tmp 9], 7⟩
theorem ok523 : FnM Tryz.prog 523 fun523 := SC.okM s523 rfl (fn := Tryz.f523) (by kernel_rfl) (by kernel_rfl)
noncomputable def s538 : SC (Tryz.f538.body.getD .skip) := SC.mk' (by simp only [Tryz.f538, go_sem]; rfl)
noncomputable def fun538 : Fun := ⟨[0, 2], [], [], 1, s538.1, [.tmp 2], 0⟩
theorem ok538 : FnM Tryz.prog 538 fun538 := SC.okM s538 rfl (fn := Tryz.f538) (by kernel_rfl) (by kernel_rfl)
noncomputable def s545 : SC (Tryz.f545.body.getD .skip) := SC.mk' (by simp only [Tryz.f545, go_sem]; rfl)
noncomputable def fun545 : Fun := ⟨[0, 1, 2, 3, 9, 8, 14, 34], [], [], 4, s545.1, [], 3⟩
theorem ok545 : FnM Tryz.prog 545 fun545 := SC.okM s545 rfl (fn := Tryz.f545) (by kernel_rfl) (by kernel_rfl)
end Go.M
