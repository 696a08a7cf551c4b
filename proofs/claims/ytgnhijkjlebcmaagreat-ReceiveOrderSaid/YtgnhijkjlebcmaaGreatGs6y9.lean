/-
  Parts of ReceiveOrder, run by the machine.
  The numbers are those of bytes.
-/
import Derived.Test.YtgnhijkjlebcmaaGreatAw31
import Derived.Test.YtgnhijkjlebcmaaGreatSt6
import Derived.KernelRfl
set_option linter.unusedVariables false
set_option linter.unusedSectionVars false
set_option maxRecDepth 100000
namespace Go.M
open Go Go.Proofs
theorem go_r12_5_3 (a m : Int) : rr (segR cx6 pB 1 (W12_10 a m (z 64) (z 160) (z 352) (z 896)) [(z 2052)] 0 [0, 1, 2, 381, 428, 433, 604, 608, 1001] [1001]) (W12_12 a m (z 96) (z 64) (z 352) (z 960)) [OpFact .rem (S8 m) (z 3076) (z 2052)] := by show _ = _; kernel_rfl
theorem go_r11_5_3 (a m : Int) : rr (segR cx6 pB 1 (W11_10 a m (z 64) (z 160) (z 352) (z 832)) [(z 2052)] 0 [0, 1, 2, 297, 340, 345, 502, 506, 775] [775]) (W11_11 a m (z 96) (z 32) (z 352) (z 896)) [OpFact .rem (S8 m) (z 3076) (z 2052)] := by show _ = _; kernel_rfl
theorem go_r8_4_2 (a m : Int) : rr (segR cx6 pB 1 (W8_4 a m (z 32) (z 128) (z 352) (z 576)) [(z 1540)] 0 [0, 1, 2, 399, 430, 435, 562, 566, 1057] [1057]) (W8_8 a m (z 64) (z 128) (z 352) (z 640)) [OpFact .rem (S8 m) (z 3076) (z 1540)] := by show _ = _; kernel_rfl
theorem go_c4 (a m : Int) : rr (seg cx6 (sL (sR (sR fun6.sc))) (Pb a m) [(z 2052)] 0 [1, 5, 12, 895, 1005, 1012] []) (Pc4 a m) [OpFact .rem (S8 a) (z 6660) (z 2052)] := by show _ = _; kernel_rfl
theorem go_r11_3_2 (a m : Int) : rr (segR cx6 pB 1 (W11_3 a m (z 32) (z 96) (z 352) (z 768)) [(z 1028)] 0 [0, 1, 2, 468, 491, 496, 707, 711, 1201] [1201]) (W11_6 a m (z 64) (z 96) (z 352) (z 832)) [OpFact .rem (S8 m) (z 3076) (z 1028)] := by show _ = _; kernel_rfl
theorem go_r7_3_3 (a m : Int) : rr (segR cx6 pB 1 (W7_6 a m (z 64) (z 96) (z 352) (z 576)) [(z 1028)] 0 [0, 1, 2, 229, 256, 261, 370, 374, 575] [575]) (W7_7 a m (z 96) (z 32) (z 352) (z 640)) [OpFact .rem (S8 m) (z 3076) (z 1028)] := by show _ = _; kernel_rfl
theorem go_r12_1_8 (a m : Int) : rr (segR cx6 pB 1 (W12_7 a m (z 224) (z 32) (z 352) (z 1216)) [(z 4)] 0 [0, 1, 2, 350, 381, 386, 595, 599, 897] [897]) (W12_8 a m (z 256) (z 32) (z 352) (z 1280)) [OpFact .rem (S8 m) (z 3076) (z 4)] := by show _ = _; kernel_rfl
theorem go_r11_3_1 (a m : Int) : rr (segR cx6 pB 1 (W11_0 a m (z 0) (z 14) (z 14) (z 704)) [(z 1028)] 0 [0, 1, 2, 485, 496, 501, 742, 746, 1237] [1237]) (W11_3 a m (z 32) (z 96) (z 352) (z 768)) [OpFact .rem (S8 m) (z 3076) (z 1028)] := by show _ = _; kernel_rfl
theorem go_r7_1_4 (a m : Int) : rr (segR cx6 pB 1 (W7_3 a m (z 96) (z 32) (z 352) (z 640)) [(z 4)] 0 [0, 1, 2, 256, 271, 276, 415, 419, 629] [629]) (W7_4 a m (z 128) (z 32) (z 352) (z 704)) [OpFact .rem (S8 m) (z 3076) (z 4)] := by show _ = _; kernel_rfl
theorem go_r7_1_2 (a m : Int) : rr (segR cx6 pB 1 (W7_1 a m (z 32) (z 32) (z 352) (z 512)) [(z 4)] 0 [0, 1, 2, 274, 281, 286, 445, 449, 665] [665]) (W7_2 a m (z 64) (z 32) (z 352) (z 576)) [OpFact .rem (S8 m) (z 3076) (z 4)] := by show _ = _; kernel_rfl
theorem go_n12_5 (a m i c k s : Int) : rr (segR cx6 pB 1 (W12_12 a m (SI i) (SI k) (SI s) (SI c)) (qE i c (z 2052)) 0 [0, 1, 2, 3, 4, 5, 410, 414, 416] [416]) (W12_12 a m (SI (i + 1)) (z 0) (z 320) (SI (c + 2))) (fE m i c (z 2052)) := by show _ = _; kernel_rfl
theorem go_r8_1_4 (a m : Int) : rr (segR cx6 pB 1 (W8_3 a m (z 96) (z 32) (z 352) (z 704)) [(z 4)] 0 [0, 1, 2, 282, 297, 302, 463, 467, 697] [697]) (W8_4 a m (z 128) (z 32) (z 352) (z 768)) [OpFact .rem (S8 m) (z 3076) (z 4)] := by show _ = _; kernel_rfl
theorem go_r6_3_1 (a m : Int) : rr (segR cx6 pB 1 (W6_0 a m (z 0) (z 14) (z 14) (z 384)) [(z 1028)] 0 [0, 1, 2, 315, 326, 331, 462, 466, 817] [817]) (W6_3 a m (z 32) (z 96) (z 352) (z 448)) [OpFact .rem (S8 m) (z 3076) (z 1028)] := by show _ = _; kernel_rfl
theorem go_r10_1_2 (a m : Int) : rr (segR cx6 pB 1 (W10_1 a m (z 32) (z 32) (z 352) (z 704)) [(z 4)] 0 [0, 1, 2, 352, 359, 364, 589, 593, 869] [869]) (W10_2 a m (z 64) (z 32) (z 352) (z 768)) [OpFact .rem (S8 m) (z 3076) (z 4)] := by show _ = _; kernel_rfl
theorem go_n8_5 (a m i c k s : Int) : rr (segR cx6 pB 1 (W8_8 a m (SI i) (SI k) (SI s) (SI c)) (qE i c (z 2052)) 0 [0, 1, 2, 3, 4, 5, 310, 314, 316] [316]) (W8_8 a m (SI (i + 1)) (z 0) (z 320) (SI (c + 2))) (fE m i c (z 2052)) := by show _ = _; kernel_rfl
theorem go_n10_1 (a m i c k s : Int) : rr (segR cx6 pB 1 (W10_10 a m (SI i) (SI k) (SI s) (SI c)) (qE i c (z 4)) 0 [0, 1, 2, 3, 4, 5, 360, 364, 366] [366]) (W10_10 a m (SI (i + 1)) (z 0) (z 320) (SI (c + 2))) (fE m i c (z 4)) := by show _ = _; kernel_rfl
theorem go_n9_3 (a m i c k s : Int) : rr (segR cx6 pB 1 (W9_9 a m (SI i) (SI k) (SI s) (SI c)) (qE i c (z 1028)) 0 [0, 1, 2, 3, 4, 5, 335, 339, 341] [341]) (W9_9 a m (SI (i + 1)) (z 0) (z 320) (SI (c + 2))) (fE m i c (z 1028)) := by show _ = _; kernel_rfl
theorem go_n9_6 (a m i c k s : Int) : rr (segR cx6 pB 1 (W9_9 a m (SI i) (SI k) (SI s) (SI c)) (qE i c (z 2564)) 0 [0, 1, 2, 3, 4, 5, 335, 339, 341] [341]) (W9_9 a m (SI (i + 1)) (z 0) (z 320) (SI (c + 2))) (fE m i c (z 2564)) := by show _ = _; kernel_rfl
theorem go_n7_5 (a m i c k s : Int) : rr (segR cx6 pB 1 (W7_7 a m (SI i) (SI k) (SI s) (SI c)) (qE i c (z 2052)) 0 [0, 1, 2, 3, 4, 5, 285, 289, 291] [291]) (W7_7 a m (SI (i + 1)) (z 0) (z 320) (SI (c + 2))) (fE m i c (z 2052)) := by show _ = _; kernel_rfl
theorem go_n5_1 (a m i c k s : Int) : rr (segR cx6 pB 1 (W5_5 a m (SI i) (SI k) (SI s) (SI c)) (qE i c (z 4)) 0 [0, 1, 2, 3, 4, 5, 235, 239, 241] [241]) (W5_5 a m (SI (i + 1)) (z 0) (z 320) (SI (c + 2))) (fE m i c (z 4)) := by show _ = _; kernel_rfl
theorem go_n3_3 (a m i c k s : Int) : rr (segR cx6 pB 1 (W3_3 a m (SI i) (SI k) (SI s) (SI c)) (qE i c (z 1028)) 0 [0, 1, 2, 3, 4, 5, 185, 189, 191] [191]) (W3_3 a m (SI (i + 1)) (z 0) (z 320) (SI (c + 2))) (fE m i c (z 1028)) := by show _ = _; kernel_rfl
theorem go_n2_6 (a m i c k s : Int) : rr (segR cx6 pB 1 (W2_2 a m (SI i) (SI k) (SI s) (SI c)) (qE i c (z 2564)) 0 [0, 1, 2, 3, 4, 5, 160, 164, 166] [166]) (W2_2 a m (SI (i + 1)) (z 0) (z 320) (SI (c + 2))) (fE m i c (z 2564)) := by show _ = _; kernel_rfl
theorem go_d1 (a m : Int) : rr (seg cx6 (sL (sR (sR (sR fun6.sc)))) (Pc1 a m) [] 0 [0, 1, 2, 3, 4, 5] []) (Pd1 a m) [] := by show _ = _; kernel_rfl
theorem go_d3 (a m : Int) : rr (seg cx6 (sL (sR (sR (sR fun6.sc)))) (Pc3 a m) [] 0 [0, 1, 2, 3, 4, 5] []) (Pd3 a m) [] := by show _ = _; kernel_rfl
theorem go_t5 (a m k s : Int) : holdsR (segE cx6 fun6.res (sR (sR (sR (sR (sR fun6.sc))))) (X5 a m (SI 14) (SI k) (SI s)) [(z 2564)]) = allP [OpFact .rem (S8 a) (z 6660) (z 2564)] := by kernel_rfl
theorem go_e9 (a m : Int) : rr (seg cx6 (sL (sL (sR (sR (sR (sR fun6.sc)))))) (Pd9 a m) [] 0 [0, 1, 2, 3, 4, 5] []) (W9_0 a m (z 0) (z 14) (z 14) (z 576)) [] := by show _ = _; kernel_rfl
theorem go_t12 (a m k s : Int) : holdsR (segE cx6 fun6.res (sR (sR (sR (sR (sR fun6.sc))))) (X12 a m (SI 14) (SI k) (SI s)) [(z 6148)]) = allP [OpFact .rem (S8 a) (z 6660) (z 6148)] := by kernel_rfl
end Go.M
