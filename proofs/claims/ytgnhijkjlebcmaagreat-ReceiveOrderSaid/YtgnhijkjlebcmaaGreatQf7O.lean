/-
  The codes of functions, as the machine takes them.
  No condition: definitions and lemmas.
-/
import Derived.Test.YtgnhijkjlebcmaaGreatQtyO
set_option linter.all false
set_option maxRecDepth 100000
set_option maxHeartbeats 4000000
namespace Go.M
open Go Go.Proofs
open Go.Eng (SOp SOper SCode sizeP aggP zerosOf bytesP zeroVal stripCode stripOps stripOper strip stripParts kindsOf kinds2)
noncomputable def s24 : SC (Tryz.f24.body.getD .skip) := SC.mk' (by simp only [Tryz.f24, go_sem]; rfl)
noncomputable def fun24 : Fun := ⟨[0, 1, 2, 5, 15, 35, 4], [2], [], 2, s24.1, [.tmp 4], 130⟩
theorem ok24 : FnM Tryz.prog 24 fun24 := SC.okM s24 rfl (fn := Tryz.f24) (by kernel_rfl) (by kernel_rfl)
noncomputable def s38 : SC (Tryz.f38.body.getD .skip) := SC.mk' (by simp only [Tryz.f38, go_sem]; rfl)
noncomputable def fun38 : Fun := ⟨[0, 1, 2, 11, 5, 6, 63, 86, 3, 38, 109, 129, 12, 23, 28, 37, 62, 76, 85, 108, 116, 117, 128, 4], [2, 3], [], 2, s38.1, [.tmp 4], 65⟩
theorem ok38 : FnM Tryz.prog 38 fun38 := SC.okM s38 rfl (fn := Tryz.f38) (by kernel_rfl) (by kernel_rfl)
noncomputable def s52 : SC (Tryz.f52.body.getD .skip) := SC.mk' (by simp only [Tryz.f52, go_sem]; rfl)
noncomputable def fun52 : Fun := ⟨[0, 1, 2, 9, 8, 19, 31, 34, 6, 7], [], [], 3, s52.1, [.tmp 6, .tmp 7], 0⟩
theorem ok52 : FnM Tryz.prog 52 fun52 := SC.okM s52 rfl (fn := Tryz.f52) (by kernel_rfl) (by kernel_rfl)
noncomputable def s104 : SC (Tryz.f104.body.getD .skip) := SC.mk' (by simp only [Tryz.f104, go_sem]; rfl)
noncomputable def fun104 : Fun := ⟨[0, 1, 3, 4, 6, 8, 2, 21, 42, 5], [2, 3, 4, 6], [], 2, s104.1, [.cell 4 true 63, .tmp 5], 390⟩
theorem ok104 : FnM Tryz.prog 104 fun104 := SC.okM s104 rfl (fn := Tryz.f104) (by kernel_rfl) (by kernel_rfl)
noncomputable def s107 : SC (Tryz.f107.body.getD .skip) := SC.mk' (by simp only [Tryz.f107, go_sem]; rfl)
noncomputable def fun107 : Fun := ⟨[0, 2, 9, 3], [2], [], 1, s107.1, [.cell 2 true 3, .tmp 3], 0⟩
theorem ok107 : FnM Tryz.prog 107 fun107 := SC.okM s107 rfl (fn := Tryz.f107) (by kernel_rfl) (by kernel_rfl)
noncomputable def s126 : SC (Tryz.f126.body.getD .skip) := SC.mk' (by simp only [Tryz.f126, go_sem]; rfl)
noncomputable def fun126 : Fun := ⟨[0, 1, 4], [], [], 2, s126.1, [.tmp 4], 65⟩
theorem ok126 : FnM Tryz.prog 126 fun126 := SC.okM s126 rfl (fn := Tryz.f126) (by kernel_rfl) (by kernel_rfl)
noncomputable def s127 : SC (Tryz.f127.body.getD .skip) := SC.mk' (by simp only [Tryz.f127, go_sem]; rfl)
noncomputable def fun127 : Fun := ⟨[0, 1, 2, 8, 3], [1, 2], [], 1, s127.1, [.cell 2 true 26, .tmp 3], 130⟩
theorem ok127 : FnM Tryz.prog 127 fun127 := SC.okM s127 rfl (fn := Tryz.f127) (by kernel_rfl) (by kernel_rfl)
noncomputable def s131 : SC (Tryz.f131.body.getD .skip) := SC.mk' (by simp only [Tryz.f131, go_sem]; rfl)
noncomputable def fun131 : Fun := ⟨[0, 1, 3, 2, 4, 6, 7, 12, 26, 32, 52, 56, 69, 73, 80, 9, 5], [2, 3, 4, 8], [], 2, s131.1, [.cell 4 true 26, .tmp 5], 195⟩
theorem ok131 : FnM Tryz.prog 131 fun131 := SC.okM s131 rfl (fn := Tryz.f131) (by kernel_rfl) (by kernel_rfl)
noncomputable def s145 : SC (Tryz.f145.body.getD .skip) := SC.mk' (by simp only [Tryz.f145, go_sem]; rfl)
noncomputable def fun145 : Fun := ⟨[0, 4, 3, 8, 2], [], [], 1, s145.1, [.tmp 2], 0⟩
theorem ok145 : FnM Tryz.prog 145 fun145 := SC.okM s145 rfl (fn := Tryz.f145) (by kernel_rfl) (by kernel_rfl)
noncomputable def s179 : SC (Tryz.f179.body.getD .skip) := SC.mk' (by simp only [Tryz.f179, go_sem]; rfl)
noncomputable def fun179 : Fun := ⟨[0, 4, 2], [], [], 1, s179.1, [.tmp 2], 0⟩
theorem ok179 : FnM Tryz.prog 179 fun179 := SC.okM s179 rfl (fn := Tryz.f179) (by kernel_rfl) (by kernel_rfl)
noncomputable def s181 : SC (Tryz.f181.body.getD .skip) := SC.mk' (by simp only [Tryz.f181, go_sem]; rfl)
noncomputable def fun181 : Fun := ⟨[0, 3, 8, 7, 4, 5, 22, 38, 6, 78, 92, 112, 145, 2], [5, 7], [], 1, s181.1, [.tmp 2], 585⟩
theorem ok181 : FnM Tryz.prog 181 fun181 := SC.okM s181 rfl (fn := Tryz.f181) (by kernel_rfl) (by kernel_rfl)
noncomputable def s225 : SC (Tryz.f225.body.getD .skip) := SC.mk' (by simp only [Tryz.f225, go_sem]; rfl)
noncomputable def fun225 : Fun := ⟨[0, 1, 3, 4], [], [], 2, s225.1, [.tmp 4], 130⟩
theorem ok225 : FnM Tryz.prog 225 fun225 := SC.okM s225 rfl (fn := Tryz.f225) (by kernel_rfl) (by kernel_rfl)
noncomputable def s226 : SC (Tryz.f226.body.getD .skip) := SC.mk' (by simp only [Tryz.f226, go_sem]; rfl)
noncomputable def fun226 : Fun := ⟨[0, 1, 11, 4, 41, 7, 9, 48, 10, 12, 3, 5, 36, 40, 42, 6, 47, 49, 51, 59, 2], [1], [], 1, s226.1, [.tmp 2], 195⟩
theorem ok226 : FnM Tryz.prog 226 fun226 := SC.okM s226 rfl (fn := Tryz.f226) (by kernel_rfl) (by kernel_rfl)
noncomputable def s231 : SC (Tryz.f231.body.getD .skip) := SC.mk' (by simp only [Tryz.f231, go_sem]; rfl)
noncomputable def fun231 : Fun := ⟨[0, 1, 2], [1], [], 1, s231.1, [.tmp 2], 0⟩
theorem ok231 : FnM Tryz.prog 231 fun231 := SC.okM s231 rfl (fn := Tryz.f231) (by kernel_rfl) (by kernel_rfl)
noncomputable def s232 : SC (Tryz.f232.body.getD .skip) := SC.mk' (by simp only [Tryz.f232, go_sem]; rfl)
noncomputable def fun232 : Fun := ⟨[0, 6, 1, 4, 7, 2, 5, 32, 56, 3], [1, 2, 4, 6], [], 1, s232.1, [.cell 2 true 10, .tmp 3], 1105⟩
theorem ok232 : FnM Tryz.prog 232 fun232 := SC.okM s232 rfl (fn := Tryz.f232) (by kernel_rfl) (by kernel_rfl)
noncomputable def s235 : SC (Tryz.f235.body.getD .skip) := SC.mk' (by simp only [Tryz.f235, go_sem]; rfl)
noncomputable def fun235 : Fun := ⟨[0, 1, 5, 2], [1], [], 1, s235.1, [.tmp 2], 520⟩
theorem ok235 : FnM Tryz.prog 235 fun235 := SC.okM s235 rfl (fn := Tryz.f235) (by kernel_rfl) (by kernel_rfl)
noncomputable def s272 : SC (Tryz.f272.body.getD .skip) := SC.mk' (by simp only [Tryz.f272, go_sem]; rfl)
noncomputable def fun272 : Fun := ⟨[0, 1, 2, 4, 10, 16, 3], [1, 2], [], 1, s272.1, [.cell 2 true 4, .tmp 3], 65⟩
theorem ok272 : FnM Tryz.prog 272 fun272 := SC.okM s272 rfl (fn := Tryz.f272) (by kernel_rfl) (by kernel_rfl)
noncomputable def s273 : SC (Tryz.f273.body.getD .skip) := SC.mk' (by simp only [Tryz.f273, go_sem]; rfl)
noncomputable def fun273 : Fun := ⟨[0, 1, 2, 3, 4, 7, 8, 30, 10, 18, 29, 31, 12, 35, 42, 9], [4, 7, 8], [], 4, s273.1, [.cell 8 true 11, .tmp 9], 195⟩
theorem ok273 : FnM Tryz.prog 273 fun273 := SC.okM s273 rfl (fn := Tryz.f273) (by kernel_rfl) (by kernel_rfl)
noncomputable def s276 : SC (Tryz.f276.body.getD .skip) := SC.mk' (by simp only [Tryz.f276, go_sem]; rfl)
noncomputable def fun276 : Fun := ⟨[0, 1, 2, 4, 9, 5], [2, 4], [], 2, s276.1, [.cell 4 true 8, .tmp 5], 65⟩
theorem ok276 : FnM Tryz.prog 276 fun276 := SC.okM s276 rfl (fn := Tryz.f276) (by kernel_rfl) (by kernel_rfl)
noncomputable def s277 : SC (Tryz.f277.body.getD .skip) := SC.mk' (by simp only [Tryz.f277, go_sem]; rfl)
noncomputable def fun277 : Fun := ⟨[0, 2], [], [], 1, s277.1, [.tmp 2], 0⟩
theorem ok277 : FnM Tryz.prog 277 fun277 := SC.okM s277 rfl (fn := Tryz.f277) (by kernel_rfl) (by kernel_rfl)
noncomputable def s284 : SC (Tryz.f284.body.getD .skip) := SC.mk' (by simp only [Tryz.f284, go_sem]; rfl)
noncomputable def fun284 : Fun := ⟨[0, 1, 8, 56, 3, 4, 5, 6, 54, 13, 19, 23, 36, 37, 44, 55, 57, 67, 79, 2], [1, 8], [], 1, s284.1, [.tmp 2], 390⟩
theorem ok284 : FnM Tryz.prog 284 fun284 := SC.okM s284 rfl (fn := Tryz.f284) (by kernel_rfl) (by kernel_rfl)
noncomputable def s295 : SC (Tryz.f295.body.getD .skip) := SC.mk' (by simp only [Tryz.f295, go_sem]; rfl)
noncomputable def fun295 : Fun := ⟨[0, 1, 2, 6, 3], [1, 2], [], 1, s295.1, [.cell 2 true 5, .tmp 3], 0⟩
theorem ok295 : FnM Tryz.prog 295 fun295 := SC.okM s295 rfl (fn := Tryz.f295) (by kernel_rfl) (by kernel_rfl)
noncomputable def s297 : SC (Tryz.f297.body.getD .skip) := SC.mk' (by simp only [Tryz.f297, go_sem]; rfl)
noncomputable def fun297 : Fun := ⟨[0, 1, 2, 3, 6, 21, 27, 7], [3, 6], [], 3, s297.1, [.cell 6 true 11, .tmp 7], 65⟩
theorem ok297 : FnM Tryz.prog 297 fun297 := SC.okM s297 rfl (fn := Tryz.f297) (by kernel_rfl) (by kernel_rfl)
noncomputable def s319 : SC (Tryz.f319.body.getD .skip) := SC.mk' (by simp only [Tryz.f319, go_sem]; rfl)
noncomputable def fun319 : Fun := ⟨[0, 1, 2], [1], [], 1, s319.1, [.tmp 2], 0⟩
theorem ok319 : FnM Tryz.prog 319 fun319 := SC.okM s319 rfl (fn := Tryz.f319) (by kernel_rfl) (by kernel_rfl)
noncomputable def s332 : SC (Tryz.f332.body.getD .skip) := SC.mk' (by simp only [Tryz.f332, go_sem]; rfl)
noncomputable def fun332 : Fun := ⟨[0, 2], [], [], 1, s332.1, [.tmp 2], 65⟩
theorem ok332 : FnM Tryz.prog 332 fun332 := SC.okM s332 rfl (fn := Tryz.f332) (by kernel_rfl) (by kernel_rfl)
noncomputable def s351 : SC (Tryz.f351.body.getD .skip) := SC.mk' (by simp only [Tryz.f351, go_sem]; rfl)
noncomputable def fun351 : Fun := ⟨[0, 1, 2, 4, 3, 6, 7, 10, 21, 9, 38, 42, 53, 55, 8], [3, 4, 6, 7], [], 3, s351.1, [.cell 6 true 11, .cell 7 true 5, .tmp 8], 195⟩
theorem ok351 : FnM Tryz.prog 351 fun351 := SC.okM s351 rfl (fn := Tryz.f351) (by kernel_rfl) (by kernel_rfl)
noncomputable def s360 : SC (Tryz.f360.body.getD .skip) := SC.mk' (by simp only [Tryz.f360, go_sem]; rfl)
noncomputable def fun360 : Fun := ⟨[0, 2], [], [], 1, s360.1, [.tmp 2], 65⟩
theorem ok360 : FnM Tryz.prog 360 fun360 := SC.okM s360 rfl (fn := Tryz.f360) (by kernel_rfl) (by kernel_rfl)
noncomputable def s410 : SC (Tryz.f410.body.getD .skip) := SC.mk' (by simp only [Tryz.f410, go_sem]; rfl)
noncomputable def fun410 : Fun := ⟨[0, 1, 8, 5, 7, 9, 16, 4], [], [], 2, s410.1, [.tmp 4], 390⟩
theorem ok410 : FnM Tryz.prog 410 fun410 := SC.okM s410 rfl (fn := Tryz.f410) (by kernel_rfl) (by kernel_rfl)
noncomputable def s416 : SC (Tryz.f416.body.getD .skip) := SC.mk' (by simp only [Tryz.f416, go_sem]; rfl)
noncomputable def fun416 : Fun := ⟨[0, 1, 15, 4, 13, 11, 14, 16, 28, 2], [1, 4], [], 1, s416.1, [.tmp 2], 130⟩
theorem ok416 : FnM Tryz.prog 416 fun416 := SC.okM s416 rfl (fn := Tryz.f416) (by kernel_rfl) (by kernel_rfl)
noncomputable def s427 : SC (Tryz.f427.body.getD .skip) := SC.mk' (by simp only [Tryz.f427, go_sem]; rfl)
noncomputable def fun427 : Fun := ⟨[0, 1, 2], [1], [], 1, s427.1, [.tmp 2], 0⟩
theorem ok427 : FnM Tryz.prog 427 fun427 := SC.okM s427 rfl (fn := Tryz.f427) (by kernel_rfl) (by kernel_rfl)
noncomputable def s428 : SC (Tryz.f428.body.getD .skip) := SC.mk' (by simp only [Tryz.f428, go_sem]; rfl)
noncomputable def fun428 : Fun := ⟨[0, 1, 5, 15, 4], [], [], 2, s428.1, [.tmp 4], 260⟩
theorem ok428 : FnM Tryz.prog 428 fun428 := SC.okM s428 rfl (fn := Tryz.f428) (by kernel_rfl) (by kernel_rfl)
noncomputable def s456 : SC (Tryz.f456.body.getD .skip) := SC.mk' (by simp only [Tryz.f456, go_sem]; rfl)
noncomputable def fun456 : Fun := ⟨[0, 2], [], [], 1, s456.1, [.tmp 2], 65⟩
theorem ok456 : FnM Tryz.prog 456 fun456 := SC.okM s456 rfl (fn := Tryz.f456) (by kernel_rfl) (by kernel_rfl)
end Go.M
