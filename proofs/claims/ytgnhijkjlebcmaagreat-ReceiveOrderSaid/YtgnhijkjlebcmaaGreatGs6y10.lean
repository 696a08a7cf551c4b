/-
  Parts of ReceiveOrder, run by the machine.
  The numbers are those of bytes.
-/
import Derived.Test.YtgnhijkjlebcmaaGreatAw31
import Derived.Test.YtgnhijkjlebcmaaGreatSt6
import Derived.KernelRfl
set_option linter.unusedVariables false
set_option linter.unusedSectionVars false
set_option maxRecDepth 100000
namespace Go.M
open Go Go.Proofs
theorem go_c6 (a m : Int) : rr (seg cx6 (sL (sR (sR fun6.sc))) (Pb a m) [(z 3076)] 0 [1, 5, 12, 1695, 1849, 1856] []) (Pc6 a m) [OpFact .rem (S8 a) (z 6660) (z 3076)] := by show _ = _; kernel_rfl
theorem go_r12_3_4 (a m : Int) : rr (segR cx6 pB 1 (W12_9 a m (z 96) (z 96) (z 352) (z 960)) [(z 1028)] 0 [0, 1, 2, 448, 495, 500, 673, 677, 1177] [1177]) (W12_12 a m (z 128) (z 96) (z 352) (z 1024)) [OpFact .rem (S8 m) (z 3076) (z 1028)] := by show _ = _; kernel_rfl
theorem go_r11_2_5 (a m : Int) : rr (segR cx6 pB 1 (W11_8 a m (z 128) (z 64) (z 352) (z 960)) [(z 516)] 0 [0, 1, 2, 369, 408, 413, 582, 586, 961] [961]) (W11_10 a m (z 160) (z 64) (z 352) (z 1024)) [OpFact .rem (S8 m) (z 3076) (z 516)] := by show _ = _; kernel_rfl
theorem go_r8_6_1 (a m : Int) : rr (segR cx6 pB 1 (W8_0 a m (z 0) (z 14) (z 14) (z 512)) [(z 2564)] 0 [0, 1, 2, 509, 532, 537, 688, 692, 1363] [1363]) (W8_6 a m (z 32) (z 192) (z 352) (z 576)) [OpFact .rem (S8 m) (z 3076) (z 2564)] := by show _ = _; kernel_rfl
theorem go_r10_2_5 (a m : Int) : rr (segR cx6 pB 1 (W10_8 a m (z 128) (z 64) (z 352) (z 896)) [(z 516)] 0 [0, 1, 2, 339, 378, 383, 530, 534, 885] [885]) (W10_10 a m (z 160) (z 64) (z 352) (z 960)) [OpFact .rem (S8 m) (z 3076) (z 516)] := by show _ = _; kernel_rfl
theorem go_r11_2_2 (a m : Int) : rr (segR cx6 pB 1 (W11_2 a m (z 32) (z 64) (z 352) (z 768)) [(z 516)] 0 [0, 1, 2, 423, 438, 443, 672, 676, 1069] [1069]) (W11_4 a m (z 64) (z 64) (z 352) (z 832)) [OpFact .rem (S8 m) (z 3076) (z 516)] := by show _ = _; kernel_rfl
theorem go_r7_5_1 (a m : Int) : rr (segR cx6 pB 1 (W7_0 a m (z 0) (z 14) (z 14) (z 448)) [(z 2052)] 0 [0, 1, 2, 425, 444, 449, 586, 590, 1137] [1137]) (W7_5 a m (z 32) (z 160) (z 352) (z 512)) [OpFact .rem (S8 m) (z 3076) (z 2052)] := by show _ = _; kernel_rfl
theorem go_r11_1_5 (a m : Int) : rr (segR cx6 pB 1 (W11_4 a m (z 128) (z 32) (z 352) (z 960)) [(z 4)] 0 [0, 1, 2, 351, 370, 375, 592, 596, 883] [883]) (W11_5 a m (z 160) (z 32) (z 352) (z 1024)) [OpFact .rem (S8 m) (z 3076) (z 4)] := by show _ = _; kernel_rfl
theorem go_r12_1_6 (a m : Int) : rr (segR cx6 pB 1 (W12_5 a m (z 160) (z 32) (z 352) (z 1088)) [(z 4)] 0 [0, 1, 2, 368, 391, 396, 625, 629, 933] [933]) (W12_6 a m (z 192) (z 32) (z 352) (z 1152)) [OpFact .rem (S8 m) (z 3076) (z 4)] := by show _ = _; kernel_rfl
theorem go_r11_1_4 (a m : Int) : rr (segR cx6 pB 1 (W11_3 a m (z 96) (z 32) (z 352) (z 896)) [(z 4)] 0 [0, 1, 2, 360, 375, 380, 607, 611, 901] [901]) (W11_4 a m (z 128) (z 32) (z 352) (z 960)) [OpFact .rem (S8 m) (z 3076) (z 4)] := by show _ = _; kernel_rfl
theorem go_r10_1_5 (a m : Int) : rr (segR cx6 pB 1 (W10_4 a m (z 128) (z 32) (z 352) (z 896)) [(z 4)] 0 [0, 1, 2, 325, 344, 349, 544, 548, 815] [815]) (W10_5 a m (z 160) (z 32) (z 352) (z 960)) [OpFact .rem (S8 m) (z 3076) (z 4)] := by show _ = _; kernel_rfl
theorem go_n11_6 (a m i c k s : Int) : rr (segR cx6 pB 1 (W11_11 a m (SI i) (SI k) (SI s) (SI c)) (qE i c (z 2564)) 0 [0, 1, 2, 3, 4, 5, 385, 389, 391] [391]) (W11_11 a m (SI (i + 1)) (z 0) (z 320) (SI (c + 2))) (fE m i c (z 2564)) := by show _ = _; kernel_rfl
theorem go_r3_1_3 (a m : Int) : rr (segR cx6 pB 1 (W3_2 a m (z 64) (z 32) (z 352) (z 320)) [(z 4)] 0 [0, 1, 2, 161, 172, 177, 238, 242, 375] [375]) (W3_3 a m (z 96) (z 32) (z 352) (z 384)) [OpFact .rem (S8 m) (z 3076) (z 4)] := by show _ = _; kernel_rfl
theorem go_n10_6 (a m i c k s : Int) : rr (segR cx6 pB 1 (W10_10 a m (SI i) (SI k) (SI s) (SI c)) (qE i c (z 2564)) 0 [0, 1, 2, 3, 4, 5, 360, 364, 366] [366]) (W10_10 a m (SI (i + 1)) (z 0) (z 320) (SI (c + 2))) (fE m i c (z 2564)) := by show _ = _; kernel_rfl
theorem go_r5_4_2 (a m : Int) : rr (segR cx6 pB 1 (W5_4 a m (z 32) (z 128) (z 352) (z 384)) [(z 1540)] 0 [0, 1, 2, 195, 214, 219, 304, 308, 475] [475]) (W5_5 a m (z 64) (z 32) (z 352) (z 448)) [OpFact .rem (S8 m) (z 3076) (z 1540)] := by show _ = _; kernel_rfl
theorem go_n10_2 (a m i c k s : Int) : rr (segR cx6 pB 1 (W10_10 a m (SI i) (SI k) (SI s) (SI c)) (qE i c (z 516)) 0 [0, 1, 2, 3, 4, 5, 360, 364, 366] [366]) (W10_10 a m (SI (i + 1)) (z 0) (z 320) (SI (c + 2))) (fE m i c (z 516)) := by show _ = _; kernel_rfl
theorem go_n9_5 (a m i c k s : Int) : rr (segR cx6 pB 1 (W9_9 a m (SI i) (SI k) (SI s) (SI c)) (qE i c (z 2052)) 0 [0, 1, 2, 3, 4, 5, 335, 339, 341] [341]) (W9_9 a m (SI (i + 1)) (z 0) (z 320) (SI (c + 2))) (fE m i c (z 2052)) := by show _ = _; kernel_rfl
theorem go_n8_3 (a m i c k s : Int) : rr (segR cx6 pB 1 (W8_8 a m (SI i) (SI k) (SI s) (SI c)) (qE i c (z 1028)) 0 [0, 1, 2, 3, 4, 5, 310, 314, 316] [316]) (W8_8 a m (SI (i + 1)) (z 0) (z 320) (SI (c + 2))) (fE m i c (z 1028)) := by show _ = _; kernel_rfl
theorem go_r2_6_1 (a m : Int) : rr (segR cx6 pB 1 (W2_0 a m (z 0) (z 14) (z 14) (z 128)) [(z 2564)] 0 [0, 1, 2, 161, 168, 173, 224, 228, 403] [403]) (W2_2 a m (z 32) (z 64) (z 352) (z 192)) [OpFact .rem (S8 m) (z 3076) (z 2564)] := by show _ = _; kernel_rfl
theorem go_n5_6 (a m i c k s : Int) : rr (segR cx6 pB 1 (W5_5 a m (SI i) (SI k) (SI s) (SI c)) (qE i c (z 2564)) 0 [0, 1, 2, 3, 4, 5, 235, 239, 241] [241]) (W5_5 a m (SI (i + 1)) (z 0) (z 320) (SI (c + 2))) (fE m i c (z 2564)) := by show _ = _; kernel_rfl
theorem go_n4_2 (a m i c k s : Int) : rr (segR cx6 pB 1 (W4_4 a m (SI i) (SI k) (SI s) (SI c)) (qE i c (z 516)) 0 [0, 1, 2, 3, 4, 5, 210, 214, 216] [216]) (W4_4 a m (SI (i + 1)) (z 0) (z 320) (SI (c + 2))) (fE m i c (z 516)) := by show _ = _; kernel_rfl
theorem go_n2_5 (a m i c k s : Int) : rr (segR cx6 pB 1 (W2_2 a m (SI i) (SI k) (SI s) (SI c)) (qE i c (z 2052)) 0 [0, 1, 2, 3, 4, 5, 160, 164, 166] [166]) (W2_2 a m (SI (i + 1)) (z 0) (z 320) (SI (c + 2))) (fE m i c (z 2052)) := by show _ = _; kernel_rfl
theorem go_n0_5 (a m i c k s : Int) : rr (segR cx6 pB 1 (W0_1 a m (SI i) (SI k) (SI s) (SI c)) (qE i c (z 2052)) 0 [0, 1, 2, 3, 106, 110, 112] [112]) (W0_1 a m (SI (i + 1)) (z 0) (z 320) (SI (c + 2))) (fE m i c (z 2052)) := by show _ = _; kernel_rfl
theorem go_t6 (a m k s : Int) : holdsR (segE cx6 fun6.res (sR (sR (sR (sR (sR fun6.sc))))) (X6 a m (SI 14) (SI k) (SI s)) [(z 3076)]) = allP [OpFact .rem (S8 a) (z 6660) (z 3076)] := by kernel_rfl
theorem go_e10 (a m : Int) : rr (seg cx6 (sL (sL (sR (sR (sR (sR fun6.sc)))))) (Pd10 a m) [] 0 [0, 1, 2, 3, 4, 5] []) (W10_0 a m (z 0) (z 14) (z 14) (z 640)) [] := by show _ = _; kernel_rfl
end Go.M
