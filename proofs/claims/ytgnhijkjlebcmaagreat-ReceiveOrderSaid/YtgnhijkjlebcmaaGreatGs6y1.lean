/-
  Parts of ReceiveOrder, run by the machine.
  The numbers are those of bytes.
-/
import Derived.Test.YtgnhijkjlebcmaaGreatAw31
import Derived.Test.YtgnhijkjlebcmaaGreatSt6
import Derived.KernelRfl
set_option linter.unusedVariables false
set_option linter.unusedSectionVars false
set_option maxRecDepth 100000
namespace Go.M
open Go Go.Proofs
theorem go_c10 (a m : Int) : rr (seg cx6 (sL (sR (sR fun6.sc))) (Pb a m) [(z 5124)] 0 [1, 5, 12, 3967, 4209, 4216] []) (Pc10 a m) [OpFact .rem (S8 a) (z 6660) (z 5124)] := by show _ = _; kernel_rfl
theorem go_r12_4_2 (a m : Int) : rr (segR cx6 pB 1 (W12_4 a m (z 32) (z 128) (z 352) (z 832)) [(z 1540)] 0 [0, 1, 2, 551, 582, 587, 802, 806, 1425] [1425]) (W12_8 a m (z 64) (z 128) (z 352) (z 896)) [OpFact .rem (S8 m) (z 3076) (z 1540)] := by show _ = _; kernel_rfl
theorem go_r7_4_2 (a m : Int) : rr (segR cx6 pB 1 (W7_4 a m (z 32) (z 128) (z 352) (z 512)) [(z 1540)] 0 [0, 1, 2, 323, 350, 355, 468, 472, 847] [847]) (W7_7 a m (z 64) (z 96) (z 352) (z 576)) [OpFact .rem (S8 m) (z 3076) (z 1540)] := by show _ = _; kernel_rfl
theorem go_r12_4_1 (a m : Int) : rr (segR cx6 pB 1 (W12_0 a m (z 0) (z 14) (z 14) (z 768)) [(z 1540)] 0 [0, 1, 2, 577, 592, 597, 852, 856, 1479] [1479]) (W12_4 a m (z 32) (z 128) (z 352) (z 832)) [OpFact .rem (S8 m) (z 3076) (z 1540)] := by show _ = _; kernel_rfl
theorem go_r11_1_8 (a m : Int) : rr (segR cx6 pB 1 (W11_7 a m (z 224) (z 32) (z 352) (z 1152)) [(z 4)] 0 [0, 1, 2, 324, 355, 360, 547, 551, 829] [829]) (W11_8 a m (z 256) (z 32) (z 352) (z 1216)) [OpFact .rem (S8 m) (z 3076) (z 4)] := by show _ = _; kernel_rfl
theorem go_r9_3_2 (a m : Int) : rr (segR cx6 pB 1 (W9_3 a m (z 32) (z 96) (z 352) (z 640)) [(z 1028)] 0 [0, 1, 2, 400, 423, 428, 595, 599, 1033] [1033]) (W9_6 a m (z 64) (z 96) (z 352) (z 704)) [OpFact .rem (S8 m) (z 3076) (z 1028)] := by show _ = _; kernel_rfl
theorem go_r9_4_1 (a m : Int) : rr (segR cx6 pB 1 (W9_0 a m (z 0) (z 14) (z 14) (z 576)) [(z 1540)] 0 [0, 1, 2, 463, 478, 483, 672, 676, 1203] [1203]) (W9_4 a m (z 32) (z 128) (z 352) (z 640)) [OpFact .rem (S8 m) (z 3076) (z 1540)] := by show _ = _; kernel_rfl
theorem go_r5_5_1 (a m : Int) : rr (segR cx6 pB 1 (W5_0 a m (z 0) (z 14) (z 14) (z 320)) [(z 2052)] 0 [0, 1, 2, 341, 360, 365, 458, 462, 937] [937]) (W5_5 a m (z 32) (z 160) (z 352) (z 384)) [OpFact .rem (S8 m) (z 3076) (z 2052)] := by show _ = _; kernel_rfl
theorem go_c3 (a m : Int) : rr (seg cx6 (sL (sR (sR fun6.sc))) (Pb a m) [(z 1540)] 0 [1, 5, 12, 579, 667, 674] []) (Pc3 a m) [OpFact .rem (S8 a) (z 6660) (z 1540)] := by show _ = _; kernel_rfl
theorem go_r11_1_3 (a m : Int) : rr (segR cx6 pB 1 (W11_2 a m (z 64) (z 32) (z 352) (z 832)) [(z 4)] 0 [0, 1, 2, 369, 380, 385, 622, 626, 919] [919]) (W11_3 a m (z 96) (z 32) (z 352) (z 896)) [OpFact .rem (S8 m) (z 3076) (z 4)] := by show _ = _; kernel_rfl
theorem go_r10_1_1 (a m : Int) : rr (segR cx6 pB 1 (W10_0 a m (z 0) (z 14) (z 14) (z 640)) [(z 4)] 0 [0, 1, 2, 354, 357, 359, 594, 598, 869] [869]) (W10_1 a m (z 32) (z 32) (z 352) (z 704)) [OpFact .rem (S8 m) (z 3076) (z 4)] := by show _ = _; kernel_rfl
theorem go_r3_1_2 (a m : Int) : rr (segR cx6 pB 1 (W3_1 a m (z 32) (z 32) (z 352) (z 256)) [(z 4)] 0 [0, 1, 2, 170, 177, 182, 253, 257, 393] [393]) (W3_2 a m (z 64) (z 32) (z 352) (z 320)) [OpFact .rem (S8 m) (z 3076) (z 4)] := by show _ = _; kernel_rfl
theorem go_r6_2_2 (a m : Int) : rr (segR cx6 pB 1 (W6_2 a m (z 32) (z 64) (z 352) (z 448)) [(z 516)] 0 [0, 1, 2, 273, 288, 293, 412, 416, 689] [689]) (W6_4 a m (z 64) (z 64) (z 352) (z 512)) [OpFact .rem (S8 m) (z 3076) (z 516)] := by show _ = _; kernel_rfl
theorem go_r6_1_4 (a m : Int) : rr (segR cx6 pB 1 (W6_3 a m (z 96) (z 32) (z 352) (z 576)) [(z 4)] 0 [0, 1, 2, 230, 245, 250, 367, 371, 561] [561]) (W6_4 a m (z 128) (z 32) (z 352) (z 640)) [OpFact .rem (S8 m) (z 3076) (z 4)] := by show _ = _; kernel_rfl
theorem go_r5_2_1 (a m : Int) : rr (segR cx6 pB 1 (W5_0 a m (z 0) (z 14) (z 14) (z 320)) [(z 516)] 0 [0, 1, 2, 251, 258, 263, 380, 384, 631] [631]) (W5_2 a m (z 32) (z 64) (z 352) (z 384)) [OpFact .rem (S8 m) (z 3076) (z 516)] := by show _ = _; kernel_rfl
theorem go_n9_1 (a m i c k s : Int) : rr (segR cx6 pB 1 (W9_9 a m (SI i) (SI k) (SI s) (SI c)) (qE i c (z 4)) 0 [0, 1, 2, 3, 4, 5, 335, 339, 341] [341]) (W9_9 a m (SI (i + 1)) (z 0) (z 320) (SI (c + 2))) (fE m i c (z 4)) := by show _ = _; kernel_rfl
theorem go_r4_1_2 (a m : Int) : rr (segR cx6 pB 1 (W4_1 a m (z 32) (z 32) (z 352) (z 320)) [(z 4)] 0 [0, 1, 2, 196, 203, 208, 301, 305, 461] [461]) (W4_2 a m (z 64) (z 32) (z 352) (z 384)) [OpFact .rem (S8 m) (z 3076) (z 4)] := by show _ = _; kernel_rfl
theorem go_r2_1_1 (a m : Int) : rr (segR cx6 pB 1 (W2_0 a m (z 0) (z 14) (z 14) (z 128)) [(z 4)] 0 [0, 1, 2, 146, 149, 151, 210, 214, 325] [325]) (W2_1 a m (z 32) (z 32) (z 352) (z 192)) [OpFact .rem (S8 m) (z 3076) (z 4)] := by show _ = _; kernel_rfl
theorem go_r1_4_1 (a m : Int) : rr (segR cx6 pB 1 (W1_0 a m (z 0) (z 14) (z 14) (z 64)) [(z 1540)] 0 [0, 1, 2, 120, 123, 125, 162, 166, 257] [257]) (W1_1 a m (z 32) (z 32) (z 352) (z 128)) [OpFact .rem (S8 m) (z 3076) (z 1540)] := by show _ = _; kernel_rfl
theorem go_r0_2_1 (a m : Int) : rr (segR cx6 pB 1 (W0_0 a m (z 0) (z 14) (z 14) (z 0)) [(z 516)] 0 [0, 1, 2, 3, 105, 109, 111] [111]) (W0_1 a m (z 32) (z 0) (z 320) (z 64)) [OpFact .rem (S8 m) (z 3076) (z 516)] := by show _ = _; kernel_rfl
theorem go_n0_1 (a m i c k s : Int) : rr (segR cx6 pB 1 (W0_1 a m (SI i) (SI k) (SI s) (SI c)) (qE i c (z 4)) 0 [0, 1, 2, 3, 106, 110, 112] [112]) (W0_1 a m (SI (i + 1)) (z 0) (z 320) (SI (c + 2))) (fE m i c (z 4)) := by show _ = _; kernel_rfl
theorem go_x0 (a m k s c : Int) : rr (segR cx6 pB 1 (W0_1 a m (SI 14) (SI k) (SI s) (SI c)) [F_] 2 [0, 1, 4, 5, 6] [6, 1, 0, 4, 5]) (X0 a m (SI 14) (SI k) (SI s)) [OpFact .lss (SI 14) (z 448) F_] := by show _ = _; kernel_rfl
theorem go_x2 (a m k s c : Int) : rr (segR cx6 pB 1 (W2_2 a m (SI 14) (SI k) (SI s) (SI c)) [F_] 2 [0, 1, 6, 7, 8] [8, 1, 0, 6, 7]) (X2 a m (SI 14) (SI k) (SI s)) [OpFact .lss (SI 14) (z 448) F_] := by show _ = _; kernel_rfl
theorem go_e5 (a m : Int) : rr (seg cx6 (sL (sL (sR (sR (sR (sR fun6.sc)))))) (Pd5 a m) [] 0 [0, 1, 2, 3, 4, 5] []) (W5_0 a m (z 0) (z 14) (z 14) (z 320)) [] := by show _ = _; kernel_rfl
theorem go_t8 (a m k s : Int) : holdsR (segE cx6 fun6.res (sR (sR (sR (sR (sR fun6.sc))))) (X8 a m (SI 14) (SI k) (SI s)) [(z 4100)]) = allP [OpFact .rem (S8 a) (z 6660) (z 4100)] := by kernel_rfl
theorem go_e12 (a m : Int) : rr (seg cx6 (sL (sL (sR (sR (sR (sR fun6.sc)))))) (Pd12 a m) [] 0 [0, 1, 2, 3, 4, 5] []) (W12_0 a m (z 0) (z 14) (z 14) (z 768)) [] := by show _ = _; kernel_rfl
end Go.M
