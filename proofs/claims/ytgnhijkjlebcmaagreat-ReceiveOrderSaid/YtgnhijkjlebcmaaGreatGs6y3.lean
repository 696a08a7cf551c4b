/-
  Parts of ReceiveOrder, run by the machine.
  The numbers are those of bytes.
-/
import Derived.Test.YtgnhijkjlebcmaaGreatAw31
import Derived.Test.YtgnhijkjlebcmaaGreatSt6
import Derived.KernelRfl
set_option linter.unusedVariables false
set_option linter.unusedSectionVars false
set_option maxRecDepth 100000
namespace Go.M
open Go Go.Proofs
theorem go_c8 (a m : Int) : rr (seg cx6 (sL (sR (sR fun6.sc))) (Pb a m) [(z 4100)] 0 [1, 5, 12, 2719, 2917, 2924] []) (Pc8 a m) [OpFact .rem (S8 a) (z 6660) (z 4100)] := by show _ = _; kernel_rfl
theorem go_r10_5_2 (a m : Int) : rr (segR cx6 pB 1 (W10_5 a m (z 32) (z 160) (z 352) (z 704)) [(z 2052)] 0 [0, 1, 2, 516, 555, 560, 713, 717, 1365] [1365]) (W10_10 a m (z 64) (z 160) (z 352) (z 768)) [OpFact .rem (S8 m) (z 3076) (z 2052)] := by show _ = _; kernel_rfl
theorem go_r10_1_9 (a m : Int) : rr (segR cx6 pB 1 (W10_8 a m (z 256) (z 32) (z 352) (z 1152)) [(z 4)] 0 [0, 1, 2, 289, 324, 329, 484, 488, 743] [743]) (W10_9 a m (z 288) (z 32) (z 352) (z 1216)) [OpFact .rem (S8 m) (z 3076) (z 4)] := by show _ = _; kernel_rfl
theorem go_r11_1_7 (a m : Int) : rr (segR cx6 pB 1 (W11_6 a m (z 192) (z 32) (z 352) (z 1088)) [(z 4)] 0 [0, 1, 2, 333, 360, 365, 562, 566, 847] [847]) (W11_7 a m (z 224) (z 32) (z 352) (z 1152)) [OpFact .rem (S8 m) (z 3076) (z 4)] := by show _ = _; kernel_rfl
theorem go_r7_6_1 (a m : Int) : rr (segR cx6 pB 1 (W7_0 a m (z 0) (z 14) (z 14) (z 448)) [(z 2564)] 0 [0, 1, 2, 463, 486, 491, 620, 624, 1255] [1255]) (W7_6 a m (z 32) (z 192) (z 352) (z 512)) [OpFact .rem (S8 m) (z 3076) (z 2564)] := by show _ = _; kernel_rfl
theorem go_r10_2_3 (a m : Int) : rr (segR cx6 pB 1 (W10_4 a m (z 64) (z 64) (z 352) (z 768)) [(z 516)] 0 [0, 1, 2, 375, 398, 403, 590, 594, 957] [957]) (W10_6 a m (z 96) (z 64) (z 352) (z 832)) [OpFact .rem (S8 m) (z 3076) (z 516)] := by show _ = _; kernel_rfl
theorem go_r8_3_3 (a m : Int) : rr (segR cx6 pB 1 (W8_6 a m (z 64) (z 96) (z 352) (z 640)) [(z 1028)] 0 [0, 1, 2, 297, 328, 333, 456, 460, 769] [769]) (W8_8 a m (z 96) (z 64) (z 352) (z 704)) [OpFact .rem (S8 m) (z 3076) (z 1028)] := by show _ = _; kernel_rfl
theorem go_r9_1_7 (a m : Int) : rr (segR cx6 pB 1 (W9_6 a m (z 192) (z 32) (z 352) (z 960)) [(z 4)] 0 [0, 1, 2, 281, 308, 313, 466, 470, 711] [711]) (W9_7 a m (z 224) (z 32) (z 352) (z 1024)) [OpFact .rem (S8 m) (z 3076) (z 4)] := by show _ = _; kernel_rfl
theorem go_r9_1_6 (a m : Int) : rr (segR cx6 pB 1 (W9_5 a m (z 160) (z 32) (z 352) (z 896)) [(z 4)] 0 [0, 1, 2, 290, 313, 318, 481, 485, 729] [729]) (W9_6 a m (z 192) (z 32) (z 352) (z 960)) [OpFact .rem (S8 m) (z 3076) (z 4)] := by show _ = _; kernel_rfl
theorem go_r7_1_6 (a m : Int) : rr (segR cx6 pB 1 (W7_5 a m (z 160) (z 32) (z 352) (z 768)) [(z 4)] 0 [0, 1, 2, 238, 261, 266, 385, 389, 593] [593]) (W7_6 a m (z 192) (z 32) (z 352) (z 832)) [OpFact .rem (S8 m) (z 3076) (z 4)] := by show _ = _; kernel_rfl
theorem go_r8_3_1 (a m : Int) : rr (segR cx6 pB 1 (W8_0 a m (z 0) (z 14) (z 14) (z 512)) [(z 1028)] 0 [0, 1, 2, 383, 394, 399, 574, 578, 985] [985]) (W8_3 a m (z 32) (z 96) (z 352) (z 576)) [OpFact .rem (S8 m) (z 3076) (z 1028)] := by show _ = _; kernel_rfl
theorem go_r4_4_1 (a m : Int) : rr (segR cx6 pB 1 (W4_0 a m (z 0) (z 14) (z 14) (z 256)) [(z 1540)] 0 [0, 1, 2, 273, 288, 293, 372, 376, 743] [743]) (W4_4 a m (z 32) (z 128) (z 352) (z 320)) [OpFact .rem (S8 m) (z 3076) (z 1540)] := by show _ = _; kernel_rfl
theorem go_n12_2 (a m i c k s : Int) : rr (segR cx6 pB 1 (W12_12 a m (SI i) (SI k) (SI s) (SI c)) (qE i c (z 516)) 0 [0, 1, 2, 3, 4, 5, 410, 414, 416] [416]) (W12_12 a m (SI (i + 1)) (z 0) (z 320) (SI (c + 2))) (fE m i c (z 516)) := by show _ = _; kernel_rfl
theorem go_n10_5 (a m i c k s : Int) : rr (segR cx6 pB 1 (W10_10 a m (SI i) (SI k) (SI s) (SI c)) (qE i c (z 2052)) 0 [0, 1, 2, 3, 4, 5, 360, 364, 366] [366]) (W10_10 a m (SI (i + 1)) (z 0) (z 320) (SI (c + 2))) (fE m i c (z 2052)) := by show _ = _; kernel_rfl
theorem go_r9_1_1 (a m : Int) : rr (segR cx6 pB 1 (W9_0 a m (z 0) (z 14) (z 14) (z 576)) [(z 4)] 0 [0, 1, 2, 328, 331, 333, 546, 550, 801] [801]) (W9_1 a m (z 32) (z 32) (z 352) (z 640)) [OpFact .rem (S8 m) (z 3076) (z 4)] := by show _ = _; kernel_rfl
theorem go_r3_3_1 (a m : Int) : rr (segR cx6 pB 1 (W3_0 a m (z 0) (z 14) (z 14) (z 192)) [(z 1028)] 0 [0, 1, 2, 213, 224, 229, 294, 298, 565] [565]) (W3_3 a m (z 32) (z 96) (z 352) (z 256)) [OpFact .rem (S8 m) (z 3076) (z 1028)] := by show _ = _; kernel_rfl
theorem go_n8_2 (a m i c k s : Int) : rr (segR cx6 pB 1 (W8_8 a m (SI i) (SI k) (SI s) (SI c)) (qE i c (z 516)) 0 [0, 1, 2, 3, 4, 5, 310, 314, 316] [316]) (W8_8 a m (SI (i + 1)) (z 0) (z 320) (SI (c + 2))) (fE m i c (z 516)) := by show _ = _; kernel_rfl
theorem go_r2_3_1 (a m : Int) : rr (segR cx6 pB 1 (W2_0 a m (z 0) (z 14) (z 14) (z 128)) [(z 1028)] 0 [0, 1, 2, 161, 168, 173, 224, 228, 403] [403]) (W2_2 a m (z 32) (z 64) (z 352) (z 192)) [OpFact .rem (S8 m) (z 3076) (z 1028)] := by show _ = _; kernel_rfl
theorem go_n6_2 (a m i c k s : Int) : rr (segR cx6 pB 1 (W6_6 a m (SI i) (SI k) (SI s) (SI c)) (qE i c (z 516)) 0 [0, 1, 2, 3, 4, 5, 260, 264, 266] [266]) (W6_6 a m (SI (i + 1)) (z 0) (z 320) (SI (c + 2))) (fE m i c (z 516)) := by show _ = _; kernel_rfl
theorem go_n2_2 (a m i c k s : Int) : rr (segR cx6 pB 1 (W2_2 a m (SI i) (SI k) (SI s) (SI c)) (qE i c (z 516)) 0 [0, 1, 2, 3, 4, 5, 160, 164, 166] [166]) (W2_2 a m (SI (i + 1)) (z 0) (z 320) (SI (c + 2))) (fE m i c (z 516)) := by show _ = _; kernel_rfl
theorem go_n1_5 (a m i c k s : Int) : rr (segR cx6 pB 1 (W1_1 a m (SI i) (SI k) (SI s) (SI c)) (qE i c (z 2052)) 0 [0, 1, 2, 3, 4, 5, 135, 139, 141] [141]) (W1_1 a m (SI (i + 1)) (z 0) (z 320) (SI (c + 2))) (fE m i c (z 2052)) := by show _ = _; kernel_rfl
theorem go_r0_3_1 (a m : Int) : rr (segR cx6 pB 1 (W0_0 a m (z 0) (z 14) (z 14) (z 0)) [(z 1028)] 0 [0, 1, 2, 3, 105, 109, 111] [111]) (W0_1 a m (z 32) (z 0) (z 320) (z 64)) [OpFact .rem (S8 m) (z 3076) (z 1028)] := by show _ = _; kernel_rfl
theorem go_t1 (a m k s : Int) : holdsR (segE cx6 fun6.res (sR (sR (sR (sR (sR fun6.sc))))) (X1 a m (SI 14) (SI k) (SI s)) [(z 516)]) = allP [OpFact .rem (S8 a) (z 6660) (z 516)] := by kernel_rfl
theorem go_t3 (a m k s : Int) : holdsR (segE cx6 fun6.res (sR (sR (sR (sR (sR fun6.sc))))) (X3 a m (SI 14) (SI k) (SI s)) [(z 1540)]) = allP [OpFact .rem (S8 a) (z 6660) (z 1540)] := by kernel_rfl
theorem go_e7 (a m : Int) : rr (seg cx6 (sL (sL (sR (sR (sR (sR fun6.sc)))))) (Pd7 a m) [] 0 [0, 1, 2, 3, 4, 5] []) (W7_0 a m (z 0) (z 14) (z 14) (z 448)) [] := by show _ = _; kernel_rfl
theorem go_t10 (a m k s : Int) : holdsR (segE cx6 fun6.res (sR (sR (sR (sR (sR fun6.sc))))) (X10 a m (SI 14) (SI k) (SI s)) [(z 5124)]) = allP [OpFact .rem (S8 a) (z 6660) (z 5124)] := by kernel_rfl
end Go.M
