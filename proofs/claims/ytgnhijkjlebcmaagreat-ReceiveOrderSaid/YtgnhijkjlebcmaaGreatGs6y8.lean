/-
  Parts of ReceiveOrder, run by the machine.
  The numbers are those of bytes.
-/
import Derived.Test.YtgnhijkjlebcmaaGreatAw31
import Derived.Test.YtgnhijkjlebcmaaGreatSt6
import Derived.KernelRfl
set_option linter.unusedVariables false
set_option linter.unusedSectionVars false
set_option maxRecDepth 100000
namespace Go.M
open Go Go.Proofs
theorem go_r11_4_2 (a m : Int) : rr (segR cx6 pB 1 (W11_4 a m (z 32) (z 128) (z 352) (z 768)) [(z 1540)] 0 [0, 1, 2, 513, 544, 549, 742, 746, 1333] [1333]) (W11_8 a m (z 64) (z 128) (z 352) (z 832)) [OpFact .rem (S8 m) (z 3076) (z 1540)] := by show _ = _; kernel_rfl
theorem go_r10_4_2 (a m : Int) : rr (segR cx6 pB 1 (W10_4 a m (z 32) (z 128) (z 352) (z 704)) [(z 1540)] 0 [0, 1, 2, 475, 506, 511, 682, 686, 1241] [1241]) (W10_8 a m (z 64) (z 128) (z 352) (z 768)) [OpFact .rem (S8 m) (z 3076) (z 1540)] := by show _ = _; kernel_rfl
theorem go_r11_1_11 (a m : Int) : rr (segR cx6 pB 1 (W11_10 a m (z 320) (z 32) (z 352) (z 1344)) [(z 4)] 0 [0, 1, 2, 297, 340, 345, 502, 506, 775] [775]) (W11_11 a m (z 352) (z 32) (z 352) (z 1408)) [OpFact .rem (S8 m) (z 3076) (z 4)] := by show _ = _; kernel_rfl
theorem go_r9_5_2 (a m : Int) : rr (segR cx6 pB 1 (W9_5 a m (z 32) (z 160) (z 352) (z 640)) [(z 2052)] 0 [0, 1, 2, 428, 463, 468, 607, 611, 1131] [1131]) (W9_9 a m (z 64) (z 128) (z 352) (z 704)) [OpFact .rem (S8 m) (z 3076) (z 2052)] := by show _ = _; kernel_rfl
theorem go_r9_3_3 (a m : Int) : rr (segR cx6 pB 1 (W9_6 a m (z 64) (z 96) (z 352) (z 704)) [(z 1028)] 0 [0, 1, 2, 373, 408, 413, 550, 554, 979] [979]) (W9_9 a m (z 96) (z 96) (z 352) (z 768)) [OpFact .rem (S8 m) (z 3076) (z 1028)] := by show _ = _; kernel_rfl
theorem go_r6_6_1 (a m : Int) : rr (segR cx6 pB 1 (W6_0 a m (z 0) (z 14) (z 14) (z 384)) [(z 2564)] 0 [0, 1, 2, 417, 440, 445, 552, 556, 1147] [1147]) (W6_6 a m (z 32) (z 192) (z 352) (z 448)) [OpFact .rem (S8 m) (z 3076) (z 2564)] := by show _ = _; kernel_rfl
theorem go_r12_3_1 (a m : Int) : rr (segR cx6 pB 1 (W12_0 a m (z 0) (z 14) (z 14) (z 768)) [(z 1028)] 0 [0, 1, 2, 519, 530, 535, 798, 802, 1321] [1321]) (W12_3 a m (z 32) (z 96) (z 352) (z 832)) [OpFact .rem (S8 m) (z 3076) (z 1028)] := by show _ = _; kernel_rfl
theorem go_r12_1_7 (a m : Int) : rr (segR cx6 pB 1 (W12_6 a m (z 192) (z 32) (z 352) (z 1152)) [(z 4)] 0 [0, 1, 2, 359, 386, 391, 610, 614, 915] [915]) (W12_7 a m (z 224) (z 32) (z 352) (z 1216)) [OpFact .rem (S8 m) (z 3076) (z 4)] := by show _ = _; kernel_rfl
theorem go_r9_1_8 (a m : Int) : rr (segR cx6 pB 1 (W9_7 a m (z 224) (z 32) (z 352) (z 1024)) [(z 4)] 0 [0, 1, 2, 272, 303, 308, 451, 455, 693] [693]) (W9_8 a m (z 256) (z 32) (z 352) (z 1088)) [OpFact .rem (S8 m) (z 3076) (z 4)] := by show _ = _; kernel_rfl
theorem go_n12_3 (a m i c k s : Int) : rr (segR cx6 pB 1 (W12_12 a m (SI i) (SI k) (SI s) (SI c)) (qE i c (z 1028)) 0 [0, 1, 2, 3, 4, 5, 410, 414, 416] [416]) (W12_12 a m (SI (i + 1)) (z 0) (z 320) (SI (c + 2))) (fE m i c (z 1028)) := by show _ = _; kernel_rfl
theorem go_r7_2_4 (a m : Int) : rr (segR cx6 pB 1 (W7_6 a m (z 96) (z 64) (z 352) (z 640)) [(z 516)] 0 [0, 1, 2, 229, 256, 261, 370, 374, 575] [575]) (W7_7 a m (z 128) (z 32) (z 352) (z 704)) [OpFact .rem (S8 m) (z 3076) (z 516)] := by show _ = _; kernel_rfl
theorem go_r10_1_4 (a m : Int) : rr (segR cx6 pB 1 (W10_3 a m (z 96) (z 32) (z 352) (z 832)) [(z 4)] 0 [0, 1, 2, 334, 349, 354, 559, 563, 833] [833]) (W10_4 a m (z 128) (z 32) (z 352) (z 896)) [OpFact .rem (S8 m) (z 3076) (z 4)] := by show _ = _; kernel_rfl
theorem go_r4_5_1 (a m : Int) : rr (segR cx6 pB 1 (W4_0 a m (z 0) (z 14) (z 14) (z 256)) [(z 2052)] 0 [0, 1, 2, 273, 288, 293, 372, 376, 743] [743]) (W4_4 a m (z 32) (z 128) (z 352) (z 320)) [OpFact .rem (S8 m) (z 3076) (z 2052)] := by show _ = _; kernel_rfl
theorem go_r9_1_4 (a m : Int) : rr (segR cx6 pB 1 (W9_3 a m (z 96) (z 32) (z 352) (z 768)) [(z 4)] 0 [0, 1, 2, 308, 323, 328, 511, 515, 765] [765]) (W9_4 a m (z 128) (z 32) (z 352) (z 832)) [OpFact .rem (S8 m) (z 3076) (z 4)] := by show _ = _; kernel_rfl
theorem go_r4_3_1 (a m : Int) : rr (segR cx6 pB 1 (W4_0 a m (z 0) (z 14) (z 14) (z 256)) [(z 1028)] 0 [0, 1, 2, 247, 258, 263, 350, 354, 649] [649]) (W4_3 a m (z 32) (z 96) (z 352) (z 320)) [OpFact .rem (S8 m) (z 3076) (z 1028)] := by show _ = _; kernel_rfl
theorem go_r8_1_1 (a m : Int) : rr (segR cx6 pB 1 (W8_0 a m (z 0) (z 14) (z 14) (z 512)) [(z 4)] 0 [0, 1, 2, 302, 305, 307, 498, 502, 733] [733]) (W8_1 a m (z 32) (z 32) (z 352) (z 576)) [OpFact .rem (S8 m) (z 3076) (z 4)] := by show _ = _; kernel_rfl
theorem go_r6_1_1 (a m : Int) : rr (segR cx6 pB 1 (W6_0 a m (z 0) (z 14) (z 14) (z 384)) [(z 4)] 0 [0, 1, 2, 250, 253, 255, 402, 406, 597] [597]) (W6_1 a m (z 32) (z 32) (z 352) (z 448)) [OpFact .rem (S8 m) (z 3076) (z 4)] := by show _ = _; kernel_rfl
theorem go_r2_2_1 (a m : Int) : rr (segR cx6 pB 1 (W2_0 a m (z 0) (z 14) (z 14) (z 128)) [(z 516)] 0 [0, 1, 2, 161, 168, 173, 224, 228, 403] [403]) (W2_2 a m (z 32) (z 64) (z 352) (z 192)) [OpFact .rem (S8 m) (z 3076) (z 516)] := by show _ = _; kernel_rfl
theorem go_n6_5 (a m i c k s : Int) : rr (segR cx6 pB 1 (W6_6 a m (SI i) (SI k) (SI s) (SI c)) (qE i c (z 2052)) 0 [0, 1, 2, 3, 4, 5, 260, 264, 266] [266]) (W6_6 a m (SI (i + 1)) (z 0) (z 320) (SI (c + 2))) (fE m i c (z 2052)) := by show _ = _; kernel_rfl
theorem go_n5_5 (a m i c k s : Int) : rr (segR cx6 pB 1 (W5_5 a m (SI i) (SI k) (SI s) (SI c)) (qE i c (z 2052)) 0 [0, 1, 2, 3, 4, 5, 235, 239, 241] [241]) (W5_5 a m (SI (i + 1)) (z 0) (z 320) (SI (c + 2))) (fE m i c (z 2052)) := by show _ = _; kernel_rfl
theorem go_n4_5 (a m i c k s : Int) : rr (segR cx6 pB 1 (W4_4 a m (SI i) (SI k) (SI s) (SI c)) (qE i c (z 2052)) 0 [0, 1, 2, 3, 4, 5, 210, 214, 216] [216]) (W4_4 a m (SI (i + 1)) (z 0) (z 320) (SI (c + 2))) (fE m i c (z 2052)) := by show _ = _; kernel_rfl
theorem go_n1_2 (a m i c k s : Int) : rr (segR cx6 pB 1 (W1_1 a m (SI i) (SI k) (SI s) (SI c)) (qE i c (z 516)) 0 [0, 1, 2, 3, 4, 5, 135, 139, 141] [141]) (W1_1 a m (SI (i + 1)) (z 0) (z 320) (SI (c + 2))) (fE m i c (z 516)) := by show _ = _; kernel_rfl
theorem go_d0 (a m : Int) : rr (seg cx6 (sL (sR (sR (sR fun6.sc)))) (Pc0 a m) [] 0 [0, 1, 2, 3, 4, 5] []) (Pd0 a m) [] := by show _ = _; kernel_rfl
theorem go_d2 (a m : Int) : rr (seg cx6 (sL (sR (sR (sR fun6.sc)))) (Pc2 a m) [] 0 [0, 1, 2, 3, 4, 5] []) (Pd2 a m) [] := by show _ = _; kernel_rfl
theorem go_t4 (a m k s : Int) : holdsR (segE cx6 fun6.res (sR (sR (sR (sR (sR fun6.sc))))) (X4 a m (SI 14) (SI k) (SI s)) [(z 2052)]) = allP [OpFact .rem (S8 a) (z 6660) (z 2052)] := by kernel_rfl
theorem go_e8 (a m : Int) : rr (seg cx6 (sL (sL (sR (sR (sR (sR fun6.sc)))))) (Pd8 a m) [] 0 [0, 1, 2, 3, 4, 5] []) (W8_0 a m (z 0) (z 14) (z 14) (z 512)) [] := by show _ = _; kernel_rfl
theorem go_t11 (a m k s : Int) : holdsR (segE cx6 fun6.res (sR (sR (sR (sR (sR fun6.sc))))) (X11 a m (SI 14) (SI k) (SI s)) [(z 5636)]) = allP [OpFact .rem (S8 a) (z 6660) (z 5636)] := by kernel_rfl
end Go.M
