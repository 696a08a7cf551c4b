/-
  Parts of ReceiveOrder, run by the machine.
  The numbers are those of bytes.
-/
import Derived.Test.YtgnhijkjlebcmaaGreatAw31
import Derived.Test.YtgnhijkjlebcmaaGreatSt6
import Derived.KernelRfl
set_option linter.unusedVariables false
set_option linter.unusedSectionVars false
set_option maxRecDepth 100000
namespace Go.M
open Go Go.Proofs
theorem go_r11_5_2 (a m : Int) : rr (segR cx6 pB 1 (W11_5 a m (z 32) (z 160) (z 352) (z 768)) [(z 2052)] 0 [0, 1, 2, 558, 597, 602, 777, 781, 1465] [1465]) (W11_10 a m (z 64) (z 160) (z 352) (z 832)) [OpFact .rem (S8 m) (z 3076) (z 2052)] := by show _ = _; kernel_rfl
theorem go_r10_6_2 (a m : Int) : rr (segR cx6 pB 1 (W10_6 a m (z 32) (z 192) (z 352) (z 704)) [(z 2564)] 0 [0, 1, 2, 457, 496, 501, 652, 656, 1205] [1205]) (W10_10 a m (z 64) (z 128) (z 352) (z 768)) [OpFact .rem (S8 m) (z 3076) (z 2564)] := by show _ = _; kernel_rfl
theorem go_r10_4_3 (a m : Int) : rr (segR cx6 pB 1 (W10_8 a m (z 64) (z 128) (z 352) (z 768)) [(z 1540)] 0 [0, 1, 2, 339, 378, 383, 530, 534, 885] [885]) (W10_10 a m (z 96) (z 64) (z 352) (z 832)) [OpFact .rem (S8 m) (z 3076) (z 1540)] := by show _ = _; kernel_rfl
theorem go_r10_3_3 (a m : Int) : rr (segR cx6 pB 1 (W10_6 a m (z 64) (z 96) (z 352) (z 768)) [(z 1028)] 0 [0, 1, 2, 407, 442, 447, 606, 610, 1063] [1063]) (W10_9 a m (z 96) (z 96) (z 352) (z 832)) [OpFact .rem (S8 m) (z 3076) (z 1028)] := by show _ = _; kernel_rfl
theorem go_r9_2_4 (a m : Int) : rr (segR cx6 pB 1 (W9_6 a m (z 96) (z 64) (z 352) (z 768)) [(z 516)] 0 [0, 1, 2, 327, 358, 363, 508, 512, 845] [845]) (W9_8 a m (z 128) (z 64) (z 352) (z 832)) [OpFact .rem (S8 m) (z 3076) (z 516)] := by show _ = _; kernel_rfl
theorem go_r8_4_1 (a m : Int) : rr (segR cx6 pB 1 (W8_0 a m (z 0) (z 14) (z 14) (z 512)) [(z 1540)] 0 [0, 1, 2, 425, 440, 445, 612, 616, 1111] [1111]) (W8_4 a m (z 32) (z 128) (z 352) (z 576)) [OpFact .rem (S8 m) (z 3076) (z 1540)] := by show _ = _; kernel_rfl
theorem go_r10_3_2 (a m : Int) : rr (segR cx6 pB 1 (W10_3 a m (z 32) (z 96) (z 352) (z 704)) [(z 1028)] 0 [0, 1, 2, 434, 457, 462, 651, 655, 1117] [1117]) (W10_6 a m (z 64) (z 96) (z 352) (z 768)) [OpFact .rem (S8 m) (z 3076) (z 1028)] := by show _ = _; kernel_rfl
theorem go_r6_4_2 (a m : Int) : rr (segR cx6 pB 1 (W6_4 a m (z 32) (z 128) (z 352) (z 448)) [(z 1540)] 0 [0, 1, 2, 255, 278, 283, 382, 386, 653] [653]) (W6_6 a m (z 64) (z 64) (z 352) (z 512)) [OpFact .rem (S8 m) (z 3076) (z 1540)] := by show _ = _; kernel_rfl
theorem go_r6_4_1 (a m : Int) : rr (segR cx6 pB 1 (W6_0 a m (z 0) (z 14) (z 14) (z 384)) [(z 1540)] 0 [0, 1, 2, 349, 364, 369, 492, 496, 927] [927]) (W6_4 a m (z 32) (z 128) (z 352) (z 448)) [OpFact .rem (S8 m) (z 3076) (z 1540)] := by show _ = _; kernel_rfl
theorem go_r10_1_6 (a m : Int) : rr (segR cx6 pB 1 (W10_5 a m (z 160) (z 32) (z 352) (z 960)) [(z 4)] 0 [0, 1, 2, 316, 339, 344, 529, 533, 797] [797]) (W10_6 a m (z 192) (z 32) (z 352) (z 1024)) [OpFact .rem (S8 m) (z 3076) (z 4)] := by show _ = _; kernel_rfl
theorem go_r9_1_5 (a m : Int) : rr (segR cx6 pB 1 (W9_4 a m (z 128) (z 32) (z 352) (z 832)) [(z 4)] 0 [0, 1, 2, 299, 318, 323, 496, 500, 747] [747]) (W9_5 a m (z 160) (z 32) (z 352) (z 896)) [OpFact .rem (S8 m) (z 3076) (z 4)] := by show _ = _; kernel_rfl
theorem go_n12_6 (a m i c k s : Int) : rr (segR cx6 pB 1 (W12_12 a m (SI i) (SI k) (SI s) (SI c)) (qE i c (z 2564)) 0 [0, 1, 2, 3, 4, 5, 410, 414, 416] [416]) (W12_12 a m (SI (i + 1)) (z 0) (z 320) (SI (c + 2))) (fE m i c (z 2564)) := by show _ = _; kernel_rfl
theorem go_r10_2_1 (a m : Int) : rr (segR cx6 pB 1 (W10_0 a m (z 0) (z 14) (z 14) (z 640)) [(z 516)] 0 [0, 1, 2, 401, 408, 413, 640, 644, 1011] [1011]) (W10_2 a m (z 32) (z 64) (z 352) (z 704)) [OpFact .rem (S8 m) (z 3076) (z 516)] := by show _ = _; kernel_rfl
theorem go_r9_2_1 (a m : Int) : rr (segR cx6 pB 1 (W9_0 a m (z 0) (z 14) (z 14) (z 576)) [(z 516)] 0 [0, 1, 2, 371, 378, 383, 588, 592, 935] [935]) (W9_2 a m (z 32) (z 64) (z 352) (z 640)) [OpFact .rem (S8 m) (z 3076) (z 516)] := by show _ = _; kernel_rfl
theorem go_r3_4_1 (a m : Int) : rr (segR cx6 pB 1 (W3_0 a m (z 0) (z 14) (z 14) (z 192)) [(z 1540)] 0 [0, 1, 2, 213, 224, 229, 294, 298, 565] [565]) (W3_3 a m (z 32) (z 96) (z 352) (z 256)) [OpFact .rem (S8 m) (z 3076) (z 1540)] := by show _ = _; kernel_rfl
theorem go_r6_1_3 (a m : Int) : rr (segR cx6 pB 1 (W6_2 a m (z 64) (z 32) (z 352) (z 512)) [(z 4)] 0 [0, 1, 2, 239, 250, 255, 382, 386, 579] [579]) (W6_3 a m (z 96) (z 32) (z 352) (z 576)) [OpFact .rem (S8 m) (z 3076) (z 4)] := by show _ = _; kernel_rfl
theorem go_n10_3 (a m i c k s : Int) : rr (segR cx6 pB 1 (W10_10 a m (SI i) (SI k) (SI s) (SI c)) (qE i c (z 1028)) 0 [0, 1, 2, 3, 4, 5, 360, 364, 366] [366]) (W10_10 a m (SI (i + 1)) (z 0) (z 320) (SI (c + 2))) (fE m i c (z 1028)) := by show _ = _; kernel_rfl
theorem go_n7_1 (a m i c k s : Int) : rr (segR cx6 pB 1 (W7_7 a m (SI i) (SI k) (SI s) (SI c)) (qE i c (z 4)) 0 [0, 1, 2, 3, 4, 5, 285, 289, 291] [291]) (W7_7 a m (SI (i + 1)) (z 0) (z 320) (SI (c + 2))) (fE m i c (z 4)) := by show _ = _; kernel_rfl
theorem go_n3_1 (a m i c k s : Int) : rr (segR cx6 pB 1 (W3_3 a m (SI i) (SI k) (SI s) (SI c)) (qE i c (z 4)) 0 [0, 1, 2, 3, 4, 5, 185, 189, 191] [191]) (W3_3 a m (SI (i + 1)) (z 0) (z 320) (SI (c + 2))) (fE m i c (z 4)) := by show _ = _; kernel_rfl
theorem go_n5_4 (a m i c k s : Int) : rr (segR cx6 pB 1 (W5_5 a m (SI i) (SI k) (SI s) (SI c)) (qE i c (z 1540)) 0 [0, 1, 2, 3, 4, 5, 235, 239, 241] [241]) (W5_5 a m (SI (i + 1)) (z 0) (z 320) (SI (c + 2))) (fE m i c (z 1540)) := by show _ = _; kernel_rfl
theorem go_n4_6 (a m i c k s : Int) : rr (segR cx6 pB 1 (W4_4 a m (SI i) (SI k) (SI s) (SI c)) (qE i c (z 2564)) 0 [0, 1, 2, 3, 4, 5, 210, 214, 216] [216]) (W4_4 a m (SI (i + 1)) (z 0) (z 320) (SI (c + 2))) (fE m i c (z 2564)) := by show _ = _; kernel_rfl
theorem go_n2_1 (a m i c k s : Int) : rr (segR cx6 pB 1 (W2_2 a m (SI i) (SI k) (SI s) (SI c)) (qE i c (z 4)) 0 [0, 1, 2, 3, 4, 5, 160, 164, 166] [166]) (W2_2 a m (SI (i + 1)) (z 0) (z 320) (SI (c + 2))) (fE m i c (z 4)) := by show _ = _; kernel_rfl
theorem go_e0 (a m : Int) : rr (seg cx6 (sL (sL (sR (sR (sR (sR fun6.sc)))))) (Pd0 a m) [] 0 [0, 1, 2, 3, 4, 5] []) (W0_0 a m (z 0) (z 14) (z 14) (z 0)) [] := by show _ = _; kernel_rfl
theorem go_e2 (a m : Int) : rr (seg cx6 (sL (sL (sR (sR (sR (sR fun6.sc)))))) (Pd2 a m) [] 0 [0, 1, 2, 3, 4, 5] []) (W2_0 a m (z 0) (z 14) (z 14) (z 128)) [] := by show _ = _; kernel_rfl
theorem go_d5 (a m : Int) : rr (seg cx6 (sL (sR (sR (sR fun6.sc)))) (Pc5 a m) [] 0 [0, 1, 2, 3, 4, 5] []) (Pd5 a m) [] := by show _ = _; kernel_rfl
theorem go_x8 (a m k s c : Int) : rr (segR cx6 pB 1 (W8_8 a m (SI 14) (SI k) (SI s) (SI c)) [F_] 2 [0, 1, 6, 7, 8] [8, 1, 0, 6, 7]) (X8 a m (SI 14) (SI k) (SI s)) [OpFact .lss (SI 14) (z 448) F_] := by show _ = _; kernel_rfl
theorem go_d12 (a m : Int) : rr (seg cx6 (sL (sR (sR (sR fun6.sc)))) (Pc12 a m) [] 0 [0, 1, 2, 3, 4, 5] []) (Pd12 a m) [] := by show _ = _; kernel_rfl
end Go.M
