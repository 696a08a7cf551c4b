/-
  Parts of ReceiveOrder, run by the machine.
  The numbers are those of bytes.
-/
import Derived.Test.YtgnhijkjlebcmaaGreatAw31
import Derived.Test.YtgnhijkjlebcmaaGreatSt6
import Derived.KernelRfl
set_option linter.unusedVariables false
set_option linter.unusedSectionVars false
set_option maxRecDepth 100000
namespace Go.M
open Go Go.Proofs
theorem go_r11_4_3 (a m : Int) : rr (segR cx6 pB 1 (W11_8 a m (z 64) (z 128) (z 352) (z 832)) [(z 1540)] 0 [0, 1, 2, 423, 466, 471, 632, 636, 1111] [1111]) (W11_11 a m (z 96) (z 96) (z 352) (z 896)) [OpFact .rem (S8 m) (z 3076) (z 1540)] := by show _ = _; kernel_rfl
theorem go_r11_4_1 (a m : Int) : rr (segR cx6 pB 1 (W11_0 a m (z 0) (z 14) (z 14) (z 704)) [(z 1540)] 0 [0, 1, 2, 539, 554, 559, 792, 796, 1387] [1387]) (W11_4 a m (z 32) (z 128) (z 352) (z 768)) [OpFact .rem (S8 m) (z 3076) (z 1540)] := by show _ = _; kernel_rfl
theorem go_r10_6_1 (a m : Int) : rr (segR cx6 pB 1 (W10_0 a m (z 0) (z 14) (z 14) (z 640)) [(z 2564)] 0 [0, 1, 2, 601, 624, 629, 824, 828, 1579] [1579]) (W10_6 a m (z 32) (z 192) (z 352) (z 704)) [OpFact .rem (S8 m) (z 3076) (z 2564)] := by show _ = _; kernel_rfl
theorem go_r12_2_5 (a m : Int) : rr (segR cx6 pB 1 (W12_8 a m (z 128) (z 64) (z 352) (z 1024)) [(z 516)] 0 [0, 1, 2, 399, 438, 443, 634, 638, 1037] [1037]) (W12_10 a m (z 160) (z 64) (z 352) (z 1088)) [OpFact .rem (S8 m) (z 3076) (z 516)] := by show _ = _; kernel_rfl
theorem go_r12_2_4 (a m : Int) : rr (segR cx6 pB 1 (W12_6 a m (z 96) (z 64) (z 352) (z 960)) [(z 516)] 0 [0, 1, 2, 417, 448, 453, 664, 668, 1073] [1073]) (W12_8 a m (z 128) (z 64) (z 352) (z 1024)) [OpFact .rem (S8 m) (z 3076) (z 516)] := by show _ = _; kernel_rfl
theorem go_r11_2_3 (a m : Int) : rr (segR cx6 pB 1 (W11_4 a m (z 64) (z 64) (z 352) (z 832)) [(z 516)] 0 [0, 1, 2, 405, 428, 433, 642, 646, 1033] [1033]) (W11_6 a m (z 96) (z 64) (z 352) (z 896)) [OpFact .rem (S8 m) (z 3076) (z 516)] := by show _ = _; kernel_rfl
theorem go_r11_1_6 (a m : Int) : rr (segR cx6 pB 1 (W11_5 a m (z 160) (z 32) (z 352) (z 1024)) [(z 4)] 0 [0, 1, 2, 342, 365, 370, 577, 581, 865] [865]) (W11_6 a m (z 192) (z 32) (z 352) (z 1088)) [OpFact .rem (S8 m) (z 3076) (z 4)] := by show _ = _; kernel_rfl
theorem go_r7_4_1 (a m : Int) : rr (segR cx6 pB 1 (W7_0 a m (z 0) (z 14) (z 14) (z 448)) [(z 1540)] 0 [0, 1, 2, 387, 402, 407, 552, 556, 1019] [1019]) (W7_4 a m (z 32) (z 128) (z 352) (z 512)) [OpFact .rem (S8 m) (z 3076) (z 1540)] := by show _ = _; kernel_rfl
theorem go_r7_3_2 (a m : Int) : rr (segR cx6 pB 1 (W7_3 a m (z 32) (z 96) (z 352) (z 512)) [(z 1028)] 0 [0, 1, 2, 332, 355, 360, 483, 487, 865] [865]) (W7_6 a m (z 64) (z 96) (z 352) (z 576)) [OpFact .rem (S8 m) (z 3076) (z 1028)] := by show _ = _; kernel_rfl
theorem go_r12_2_1 (a m : Int) : rr (segR cx6 pB 1 (W12_0 a m (z 0) (z 14) (z 14) (z 768)) [(z 516)] 0 [0, 1, 2, 461, 468, 473, 744, 748, 1163] [1163]) (W12_2 a m (z 32) (z 64) (z 352) (z 832)) [OpFact .rem (S8 m) (z 3076) (z 516)] := by show _ = _; kernel_rfl
theorem go_r9_3_1 (a m : Int) : rr (segR cx6 pB 1 (W9_0 a m (z 0) (z 14) (z 14) (z 576)) [(z 1028)] 0 [0, 1, 2, 417, 428, 433, 630, 634, 1069] [1069]) (W9_3 a m (z 32) (z 96) (z 352) (z 640)) [OpFact .rem (S8 m) (z 3076) (z 1028)] := by show _ = _; kernel_rfl
theorem go_r8_2_1 (a m : Int) : rr (segR cx6 pB 1 (W8_0 a m (z 0) (z 14) (z 14) (z 512)) [(z 516)] 0 [0, 1, 2, 341, 348, 353, 536, 540, 859] [859]) (W8_2 a m (z 32) (z 64) (z 352) (z 576)) [OpFact .rem (S8 m) (z 3076) (z 516)] := by show _ = _; kernel_rfl
theorem go_n12_4 (a m i c k s : Int) : rr (segR cx6 pB 1 (W12_12 a m (SI i) (SI k) (SI s) (SI c)) (qE i c (z 1540)) 0 [0, 1, 2, 3, 4, 5, 410, 414, 416] [416]) (W12_12 a m (SI (i + 1)) (z 0) (z 320) (SI (c + 2))) (fE m i c (z 1540)) := by show _ = _; kernel_rfl
theorem go_r5_2_2 (a m : Int) : rr (segR cx6 pB 1 (W5_2 a m (z 32) (z 64) (z 352) (z 384)) [(z 516)] 0 [0, 1, 2, 243, 258, 263, 360, 364, 613] [613]) (W5_4 a m (z 64) (z 64) (z 352) (z 448)) [OpFact .rem (S8 m) (z 3076) (z 516)] := by show _ = _; kernel_rfl
theorem go_r5_1_5 (a m : Int) : rr (segR cx6 pB 1 (W5_4 a m (z 128) (z 32) (z 352) (z 576)) [(z 4)] 0 [0, 1, 2, 195, 214, 219, 304, 308, 475] [475]) (W5_5 a m (z 160) (z 32) (z 352) (z 640)) [OpFact .rem (S8 m) (z 3076) (z 4)] := by show _ = _; kernel_rfl
theorem go_r5_1_4 (a m : Int) : rr (segR cx6 pB 1 (W5_3 a m (z 96) (z 32) (z 352) (z 512)) [(z 4)] 0 [0, 1, 2, 204, 219, 224, 319, 323, 493] [493]) (W5_4 a m (z 128) (z 32) (z 352) (z 576)) [OpFact .rem (S8 m) (z 3076) (z 4)] := by show _ = _; kernel_rfl
theorem go_r4_1_3 (a m : Int) : rr (segR cx6 pB 1 (W4_2 a m (z 64) (z 32) (z 352) (z 384)) [(z 4)] 0 [0, 1, 2, 187, 198, 203, 286, 290, 443] [443]) (W4_3 a m (z 96) (z 32) (z 352) (z 448)) [OpFact .rem (S8 m) (z 3076) (z 4)] := by show _ = _; kernel_rfl
theorem go_n9_4 (a m i c k s : Int) : rr (segR cx6 pB 1 (W9_9 a m (SI i) (SI k) (SI s) (SI c)) (qE i c (z 1540)) 0 [0, 1, 2, 3, 4, 5, 335, 339, 341] [341]) (W9_9 a m (SI (i + 1)) (z 0) (z 320) (SI (c + 2))) (fE m i c (z 1540)) := by show _ = _; kernel_rfl
theorem go_r2_1_2 (a m : Int) : rr (segR cx6 pB 1 (W2_1 a m (z 32) (z 32) (z 352) (z 192)) [(z 4)] 0 [0, 1, 2, 144, 151, 156, 205, 209, 325] [325]) (W2_2 a m (z 64) (z 32) (z 352) (z 256)) [OpFact .rem (S8 m) (z 3076) (z 4)] := by show _ = _; kernel_rfl
theorem go_n5_3 (a m i c k s : Int) : rr (segR cx6 pB 1 (W5_5 a m (SI i) (SI k) (SI s) (SI c)) (qE i c (z 1028)) 0 [0, 1, 2, 3, 4, 5, 235, 239, 241] [241]) (W5_5 a m (SI (i + 1)) (z 0) (z 320) (SI (c + 2))) (fE m i c (z 1028)) := by show _ = _; kernel_rfl
theorem go_n4_4 (a m i c k s : Int) : rr (segR cx6 pB 1 (W4_4 a m (SI i) (SI k) (SI s) (SI c)) (qE i c (z 1540)) 0 [0, 1, 2, 3, 4, 5, 210, 214, 216] [216]) (W4_4 a m (SI (i + 1)) (z 0) (z 320) (SI (c + 2))) (fE m i c (z 1540)) := by show _ = _; kernel_rfl
theorem go_n1_4 (a m i c k s : Int) : rr (segR cx6 pB 1 (W1_1 a m (SI i) (SI k) (SI s) (SI c)) (qE i c (z 1540)) 0 [0, 1, 2, 3, 4, 5, 135, 139, 141] [141]) (W1_1 a m (SI (i + 1)) (z 0) (z 320) (SI (c + 2))) (fE m i c (z 1540)) := by show _ = _; kernel_rfl
theorem go_n0_3 (a m i c k s : Int) : rr (segR cx6 pB 1 (W0_1 a m (SI i) (SI k) (SI s) (SI c)) (qE i c (z 1028)) 0 [0, 1, 2, 3, 106, 110, 112] [112]) (W0_1 a m (SI (i + 1)) (z 0) (z 320) (SI (c + 2))) (fE m i c (z 1028)) := by show _ = _; kernel_rfl
theorem go_d4 (a m : Int) : rr (seg cx6 (sL (sR (sR (sR fun6.sc)))) (Pc4 a m) [] 0 [0, 1, 2, 3, 4, 5] []) (Pd4 a m) [] := by show _ = _; kernel_rfl
theorem go_x7 (a m k s c : Int) : rr (segR cx6 pB 1 (W7_7 a m (SI 14) (SI k) (SI s) (SI c)) [F_] 2 [0, 1, 6, 7, 8] [8, 1, 0, 6, 7]) (X7 a m (SI 14) (SI k) (SI s)) [OpFact .lss (SI 14) (z 448) F_] := by show _ = _; kernel_rfl
theorem go_d11 (a m : Int) : rr (seg cx6 (sL (sR (sR (sR fun6.sc)))) (Pc11 a m) [] 0 [0, 1, 2, 3, 4, 5] []) (Pd11 a m) [] := by show _ = _; kernel_rfl
end Go.M
