/-
  Parts of ReceiveOrder, run by the machine.
  The numbers are those of bytes.
-/
import Derived.Test.YtgnhijkjlebcmaaGreatAw31
import Derived.Test.YtgnhijkjlebcmaaGreatSt6
import Derived.KernelRfl
set_option linter.unusedVariables false
set_option linter.unusedSectionVars false
set_option maxRecDepth 100000
namespace Go.M
open Go Go.Proofs
theorem go_r12_6_2 (a m : Int) : rr (segR cx6 pB 1 (W12_6 a m (z 32) (z 192) (z 352) (z 832)) [(z 2564)] 0 [0, 1, 2, 649, 696, 701, 880, 884, 1705] [1705]) (W12_12 a m (z 64) (z 192) (z 352) (z 896)) [OpFact .rem (S8 m) (z 3076) (z 2564)] := by show _ = _; kernel_rfl
theorem go_r11_2_6 (a m : Int) : rr (segR cx6 pB 1 (W11_10 a m (z 160) (z 64) (z 352) (z 1024)) [(z 516)] 0 [0, 1, 2, 297, 340, 345, 502, 506, 775] [775]) (W11_11 a m (z 192) (z 32) (z 352) (z 1088)) [OpFact .rem (S8 m) (z 3076) (z 516)] := by show _ = _; kernel_rfl
theorem go_r10_2_4 (a m : Int) : rr (segR cx6 pB 1 (W10_6 a m (z 96) (z 64) (z 352) (z 832)) [(z 516)] 0 [0, 1, 2, 357, 388, 393, 560, 564, 921] [921]) (W10_8 a m (z 128) (z 64) (z 352) (z 896)) [OpFact .rem (S8 m) (z 3076) (z 516)] := by show _ = _; kernel_rfl
theorem go_r6_5_1 (a m : Int) : rr (segR cx6 pB 1 (W6_0 a m (z 0) (z 14) (z 14) (z 384)) [(z 2052)] 0 [0, 1, 2, 383, 402, 407, 522, 526, 1037] [1037]) (W6_5 a m (z 32) (z 160) (z 352) (z 448)) [OpFact .rem (S8 m) (z 3076) (z 2052)] := by show _ = _; kernel_rfl
theorem go_r12_1_9 (a m : Int) : rr (segR cx6 pB 1 (W12_8 a m (z 256) (z 32) (z 352) (z 1280)) [(z 4)] 0 [0, 1, 2, 341, 376, 381, 580, 584, 879] [879]) (W12_9 a m (z 288) (z 32) (z 352) (z 1344)) [OpFact .rem (S8 m) (z 3076) (z 4)] := by show _ = _; kernel_rfl
theorem go_n11_3 (a m i c k s : Int) : rr (segR cx6 pB 1 (W11_11 a m (SI i) (SI k) (SI s) (SI c)) (qE i c (z 1028)) 0 [0, 1, 2, 3, 4, 5, 385, 389, 391] [391]) (W11_11 a m (SI (i + 1)) (z 0) (z 320) (SI (c + 2))) (fE m i c (z 1028)) := by show _ = _; kernel_rfl
theorem go_r9_5_1 (a m : Int) : rr (segR cx6 pB 1 (W9_0 a m (z 0) (z 14) (z 14) (z 576)) [(z 2052)] 0 [0, 1, 2, 509, 528, 533, 714, 718, 1337] [1337]) (W9_5 a m (z 32) (z 160) (z 352) (z 640)) [OpFact .rem (S8 m) (z 3076) (z 2052)] := by show _ = _; kernel_rfl
theorem go_r12_1_4 (a m : Int) : rr (segR cx6 pB 1 (W12_3 a m (z 96) (z 32) (z 352) (z 960)) [(z 4)] 0 [0, 1, 2, 386, 401, 406, 655, 659, 969] [969]) (W12_4 a m (z 128) (z 32) (z 352) (z 1024)) [OpFact .rem (S8 m) (z 3076) (z 4)] := by show _ = _; kernel_rfl
theorem go_r5_6_1 (a m : Int) : rr (segR cx6 pB 1 (W5_0 a m (z 0) (z 14) (z 14) (z 320)) [(z 2564)] 0 [0, 1, 2, 341, 360, 365, 458, 462, 937] [937]) (W5_5 a m (z 32) (z 160) (z 352) (z 384)) [OpFact .rem (S8 m) (z 3076) (z 2564)] := by show _ = _; kernel_rfl
theorem go_r8_2_3 (a m : Int) : rr (segR cx6 pB 1 (W8_4 a m (z 64) (z 64) (z 352) (z 640)) [(z 516)] 0 [0, 1, 2, 315, 338, 343, 486, 490, 805] [805]) (W8_6 a m (z 96) (z 64) (z 352) (z 704)) [OpFact .rem (S8 m) (z 3076) (z 516)] := by show _ = _; kernel_rfl
theorem go_r7_6_2 (a m : Int) : rr (segR cx6 pB 1 (W7_6 a m (z 32) (z 192) (z 352) (z 512)) [(z 2564)] 0 [0, 1, 2, 229, 256, 261, 370, 374, 575] [575]) (W7_7 a m (z 64) (z 32) (z 352) (z 576)) [OpFact .rem (S8 m) (z 3076) (z 2564)] := by show _ = _; kernel_rfl
theorem go_r7_1_5 (a m : Int) : rr (segR cx6 pB 1 (W7_4 a m (z 128) (z 32) (z 352) (z 704)) [(z 4)] 0 [0, 1, 2, 247, 266, 271, 400, 404, 611] [611]) (W7_5 a m (z 160) (z 32) (z 352) (z 768)) [OpFact .rem (S8 m) (z 3076) (z 4)] := by show _ = _; kernel_rfl
theorem go_r4_6_1 (a m : Int) : rr (segR cx6 pB 1 (W4_0 a m (z 0) (z 14) (z 14) (z 256)) [(z 2564)] 0 [0, 1, 2, 273, 288, 293, 372, 376, 743] [743]) (W4_4 a m (z 32) (z 128) (z 352) (z 320)) [OpFact .rem (S8 m) (z 3076) (z 2564)] := by show _ = _; kernel_rfl
theorem go_r7_2_1 (a m : Int) : rr (segR cx6 pB 1 (W7_0 a m (z 0) (z 14) (z 14) (z 448)) [(z 516)] 0 [0, 1, 2, 311, 318, 323, 484, 488, 783] [783]) (W7_2 a m (z 32) (z 64) (z 352) (z 512)) [OpFact .rem (S8 m) (z 3076) (z 516)] := by show _ = _; kernel_rfl
theorem go_r6_2_1 (a m : Int) : rr (segR cx6 pB 1 (W6_0 a m (z 0) (z 14) (z 14) (z 384)) [(z 516)] 0 [0, 1, 2, 281, 288, 293, 432, 436, 707] [707]) (W6_2 a m (z 32) (z 64) (z 352) (z 448)) [OpFact .rem (S8 m) (z 3076) (z 516)] := by show _ = _; kernel_rfl
theorem go_r5_1_3 (a m : Int) : rr (segR cx6 pB 1 (W5_2 a m (z 64) (z 32) (z 352) (z 448)) [(z 4)] 0 [0, 1, 2, 213, 224, 229, 334, 338, 511] [511]) (W5_3 a m (z 96) (z 32) (z 352) (z 512)) [OpFact .rem (S8 m) (z 3076) (z 4)] := by show _ = _; kernel_rfl
theorem go_r3_1_1 (a m : Int) : rr (segR cx6 pB 1 (W3_0 a m (z 0) (z 14) (z 14) (z 192)) [(z 4)] 0 [0, 1, 2, 172, 175, 177, 258, 262, 393] [393]) (W3_1 a m (z 32) (z 32) (z 352) (z 256)) [OpFact .rem (S8 m) (z 3076) (z 4)] := by show _ = _; kernel_rfl
theorem go_r3_2_2 (a m : Int) : rr (segR cx6 pB 1 (W3_2 a m (z 32) (z 64) (z 352) (z 256)) [(z 516)] 0 [0, 1, 2, 161, 172, 177, 238, 242, 375] [375]) (W3_3 a m (z 64) (z 32) (z 352) (z 320)) [OpFact .rem (S8 m) (z 3076) (z 516)] := by show _ = _; kernel_rfl
theorem go_n7_6 (a m i c k s : Int) : rr (segR cx6 pB 1 (W7_7 a m (SI i) (SI k) (SI s) (SI c)) (qE i c (z 2564)) 0 [0, 1, 2, 3, 4, 5, 285, 289, 291] [291]) (W7_7 a m (SI (i + 1)) (z 0) (z 320) (SI (c + 2))) (fE m i c (z 2564)) := by show _ = _; kernel_rfl
theorem go_n4_3 (a m i c k s : Int) : rr (segR cx6 pB 1 (W4_4 a m (SI i) (SI k) (SI s) (SI c)) (qE i c (z 1028)) 0 [0, 1, 2, 3, 4, 5, 210, 214, 216] [216]) (W4_4 a m (SI (i + 1)) (z 0) (z 320) (SI (c + 2))) (fE m i c (z 1028)) := by show _ = _; kernel_rfl
theorem go_c1 (a m : Int) : rr (seg cx6 (sL (sR (sR fun6.sc))) (Pb a m) [(z 516)] 0 [1, 5, 12, 116, 159, 166] []) (Pc1 a m) [OpFact .rem (S8 a) (z 6660) (z 516)] := by show _ = _; kernel_rfl
theorem go_n3_4 (a m i c k s : Int) : rr (segR cx6 pB 1 (W3_3 a m (SI i) (SI k) (SI s) (SI c)) (qE i c (z 1540)) 0 [0, 1, 2, 3, 4, 5, 185, 189, 191] [191]) (W3_3 a m (SI (i + 1)) (z 0) (z 320) (SI (c + 2))) (fE m i c (z 1540)) := by show _ = _; kernel_rfl
theorem go_e1 (a m : Int) : rr (seg cx6 (sL (sL (sR (sR (sR (sR fun6.sc)))))) (Pd1 a m) [] 0 [0, 1, 2, 3, 4, 5] []) (W1_0 a m (z 0) (z 14) (z 14) (z 64)) [] := by show _ = _; kernel_rfl
theorem go_e3 (a m : Int) : rr (seg cx6 (sL (sL (sR (sR (sR (sR fun6.sc)))))) (Pd3 a m) [] 0 [0, 1, 2, 3, 4, 5] []) (W3_0 a m (z 0) (z 14) (z 14) (z 192)) [] := by show _ = _; kernel_rfl
theorem go_d6 (a m : Int) : rr (seg cx6 (sL (sR (sR (sR fun6.sc)))) (Pc6 a m) [] 0 [0, 1, 2, 3, 4, 5] []) (Pd6 a m) [] := by show _ = _; kernel_rfl
theorem go_x9 (a m k s c : Int) : rr (segR cx6 pB 1 (W9_9 a m (SI 14) (SI k) (SI s) (SI c)) [F_] 2 [0, 1, 6, 7, 8] [8, 1, 0, 6, 7]) (X9 a m (SI 14) (SI k) (SI s)) [OpFact .lss (SI 14) (z 448) F_] := by show _ = _; kernel_rfl
theorem go_c0 (a m : Int) : rr (seg cx6 (sL (sR (sR fun6.sc))) (Pb a m) [(z 4)] 0 [1, 5, 7, 12, 14, 16] []) (Pc0 a m) [OpFact .rem (S8 a) (z 6660) (z 4)] := by show _ = _; kernel_rfl
end Go.M
