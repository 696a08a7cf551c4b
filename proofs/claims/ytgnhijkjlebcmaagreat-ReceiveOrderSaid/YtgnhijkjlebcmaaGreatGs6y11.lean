/-
  Parts of ReceiveOrder, run by the machine.
  The numbers are those of bytes.
-/
import Derived.Test.YtgnhijkjlebcmaaGreatAw31
import Derived.Test.YtgnhijkjlebcmaaGreatSt6
import Derived.KernelRfl
set_option linter.unusedVariables false
set_option linter.unusedSectionVars false
set_option maxRecDepth 100000
namespace Go.M
open Go Go.Proofs
theorem go_r12_5_2 (a m : Int) : rr (segR cx6 pB 1 (W12_5 a m (z 32) (z 160) (z 352) (z 832)) [(z 2052)] 0 [0, 1, 2, 600, 639, 644, 841, 845, 1565] [1565]) (W12_10 a m (z 64) (z 160) (z 352) (z 896)) [OpFact .rem (S8 m) (z 3076) (z 2052)] := by show _ = _; kernel_rfl
theorem go_r11_3_4 (a m : Int) : rr (segR cx6 pB 1 (W11_9 a m (z 96) (z 96) (z 352) (z 896)) [(z 1028)] 0 [0, 1, 2, 360, 403, 408, 567, 571, 943] [943]) (W11_11 a m (z 128) (z 64) (z 352) (z 960)) [OpFact .rem (S8 m) (z 3076) (z 1028)] := by show _ = _; kernel_rfl
theorem go_r12_6_1 (a m : Int) : rr (segR cx6 pB 1 (W12_0 a m (z 0) (z 14) (z 14) (z 768)) [(z 2564)] 0 [0, 1, 2, 693, 716, 721, 960, 964, 1795] [1795]) (W12_6 a m (z 32) (z 192) (z 352) (z 832)) [OpFact .rem (S8 m) (z 3076) (z 2564)] := by show _ = _; kernel_rfl
theorem go_r12_1_12 (a m : Int) : rr (segR cx6 pB 1 (W12_11 a m (z 352) (z 32) (z 352) (z 1472)) [(z 4)] 0 [0, 1, 2, 314, 361, 366, 535, 539, 825] [825]) (W12_12 a m (z 384) (z 32) (z 352) (z 1536)) [OpFact .rem (S8 m) (z 3076) (z 4)] := by show _ = _; kernel_rfl
theorem go_r11_2_4 (a m : Int) : rr (segR cx6 pB 1 (W11_6 a m (z 96) (z 64) (z 352) (z 896)) [(z 516)] 0 [0, 1, 2, 387, 418, 423, 612, 616, 997] [997]) (W11_8 a m (z 128) (z 64) (z 352) (z 960)) [OpFact .rem (S8 m) (z 3076) (z 516)] := by show _ = _; kernel_rfl
theorem go_r10_3_4 (a m : Int) : rr (segR cx6 pB 1 (W10_9 a m (z 96) (z 96) (z 352) (z 832)) [(z 1028)] 0 [0, 1, 2, 280, 319, 324, 469, 473, 725] [725]) (W10_10 a m (z 128) (z 32) (z 352) (z 896)) [OpFact .rem (S8 m) (z 3076) (z 1028)] := by show _ = _; kernel_rfl
theorem go_n11_1 (a m i c k s : Int) : rr (segR cx6 pB 1 (W11_11 a m (SI i) (SI k) (SI s) (SI c)) (qE i c (z 4)) 0 [0, 1, 2, 3, 4, 5, 385, 389, 391] [391]) (W11_11 a m (SI (i + 1)) (z 0) (z 320) (SI (c + 2))) (fE m i c (z 4)) := by show _ = _; kernel_rfl
theorem go_r12_1_2 (a m : Int) : rr (segR cx6 pB 1 (W12_1 a m (z 32) (z 32) (z 352) (z 832)) [(z 4)] 0 [0, 1, 2, 404, 411, 416, 685, 689, 1005] [1005]) (W12_2 a m (z 64) (z 32) (z 352) (z 896)) [OpFact .rem (S8 m) (z 3076) (z 4)] := by show _ = _; kernel_rfl
theorem go_r7_5_2 (a m : Int) : rr (segR cx6 pB 1 (W7_5 a m (z 32) (z 160) (z 352) (z 512)) [(z 2052)] 0 [0, 1, 2, 276, 303, 308, 419, 423, 711] [711]) (W7_7 a m (z 64) (z 64) (z 352) (z 576)) [OpFact .rem (S8 m) (z 3076) (z 2052)] := by show _ = _; kernel_rfl
theorem go_r6_3_2 (a m : Int) : rr (segR cx6 pB 1 (W6_3 a m (z 32) (z 96) (z 352) (z 448)) [(z 1028)] 0 [0, 1, 2, 298, 321, 326, 427, 431, 781] [781]) (W6_6 a m (z 64) (z 96) (z 352) (z 512)) [OpFact .rem (S8 m) (z 3076) (z 1028)] := by show _ = _; kernel_rfl
theorem go_r12_1_1 (a m : Int) : rr (segR cx6 pB 1 (W12_0 a m (z 0) (z 14) (z 14) (z 768)) [(z 4)] 0 [0, 1, 2, 406, 409, 411, 690, 694, 1005] [1005]) (W12_1 a m (z 32) (z 32) (z 352) (z 832)) [OpFact .rem (S8 m) (z 3076) (z 4)] := by show _ = _; kernel_rfl
theorem go_r8_1_5 (a m : Int) : rr (segR cx6 pB 1 (W8_4 a m (z 128) (z 32) (z 352) (z 768)) [(z 4)] 0 [0, 1, 2, 273, 292, 297, 448, 452, 679] [679]) (W8_5 a m (z 160) (z 32) (z 352) (z 832)) [OpFact .rem (S8 m) (z 3076) (z 4)] := by show _ = _; kernel_rfl
theorem go_r7_2_2 (a m : Int) : rr (segR cx6 pB 1 (W7_2 a m (z 32) (z 64) (z 352) (z 512)) [(z 516)] 0 [0, 1, 2, 303, 318, 323, 464, 468, 765] [765]) (W7_4 a m (z 64) (z 64) (z 352) (z 576)) [OpFact .rem (S8 m) (z 3076) (z 516)] := by show _ = _; kernel_rfl
theorem go_r9_1_3 (a m : Int) : rr (segR cx6 pB 1 (W9_2 a m (z 64) (z 32) (z 352) (z 704)) [(z 4)] 0 [0, 1, 2, 317, 328, 333, 526, 530, 783] [783]) (W9_3 a m (z 96) (z 32) (z 352) (z 768)) [OpFact .rem (S8 m) (z 3076) (z 4)] := by show _ = _; kernel_rfl
theorem go_n7_3 (a m i c k s : Int) : rr (segR cx6 pB 1 (W7_7 a m (SI i) (SI k) (SI s) (SI c)) (qE i c (z 1028)) 0 [0, 1, 2, 3, 4, 5, 285, 289, 291] [291]) (W7_7 a m (SI (i + 1)) (z 0) (z 320) (SI (c + 2))) (fE m i c (z 1028)) := by show _ = _; kernel_rfl
theorem go_r3_6_1 (a m : Int) : rr (segR cx6 pB 1 (W3_0 a m (z 0) (z 14) (z 14) (z 192)) [(z 2564)] 0 [0, 1, 2, 213, 224, 229, 294, 298, 565] [565]) (W3_3 a m (z 32) (z 96) (z 352) (z 256)) [OpFact .rem (S8 m) (z 3076) (z 2564)] := by show _ = _; kernel_rfl
theorem go_r1_3_1 (a m : Int) : rr (segR cx6 pB 1 (W1_0 a m (z 0) (z 14) (z 14) (z 64)) [(z 1028)] 0 [0, 1, 2, 120, 123, 125, 162, 166, 257] [257]) (W1_1 a m (z 32) (z 32) (z 352) (z 128)) [OpFact .rem (S8 m) (z 3076) (z 1028)] := by show _ = _; kernel_rfl
theorem go_n8_4 (a m i c k s : Int) : rr (segR cx6 pB 1 (W8_8 a m (SI i) (SI k) (SI s) (SI c)) (qE i c (z 1540)) 0 [0, 1, 2, 3, 4, 5, 310, 314, 316] [316]) (W8_8 a m (SI (i + 1)) (z 0) (z 320) (SI (c + 2))) (fE m i c (z 1540)) := by show _ = _; kernel_rfl
theorem go_n6_3 (a m i c k s : Int) : rr (segR cx6 pB 1 (W6_6 a m (SI i) (SI k) (SI s) (SI c)) (qE i c (z 1028)) 0 [0, 1, 2, 3, 4, 5, 260, 264, 266] [266]) (W6_6 a m (SI (i + 1)) (z 0) (z 320) (SI (c + 2))) (fE m i c (z 1028)) := by show _ = _; kernel_rfl
theorem go_r1_6_1 (a m : Int) : rr (segR cx6 pB 1 (W1_0 a m (z 0) (z 14) (z 14) (z 64)) [(z 2564)] 0 [0, 1, 2, 120, 123, 125, 162, 166, 257] [257]) (W1_1 a m (z 32) (z 32) (z 352) (z 128)) [OpFact .rem (S8 m) (z 3076) (z 2564)] := by show _ = _; kernel_rfl
theorem go_n3_6 (a m i c k s : Int) : rr (segR cx6 pB 1 (W3_3 a m (SI i) (SI k) (SI s) (SI c)) (qE i c (z 2564)) 0 [0, 1, 2, 3, 4, 5, 185, 189, 191] [191]) (W3_3 a m (SI (i + 1)) (z 0) (z 320) (SI (c + 2))) (fE m i c (z 2564)) := by show _ = _; kernel_rfl
theorem go_n2_4 (a m i c k s : Int) : rr (segR cx6 pB 1 (W2_2 a m (SI i) (SI k) (SI s) (SI c)) (qE i c (z 1540)) 0 [0, 1, 2, 3, 4, 5, 160, 164, 166] [166]) (W2_2 a m (SI (i + 1)) (z 0) (z 320) (SI (c + 2))) (fE m i c (z 1540)) := by show _ = _; kernel_rfl
theorem go_t0 (a m k s : Int) : holdsR (segE cx6 fun6.res (sR (sR (sR (sR (sR fun6.sc))))) (X0 a m (SI 14) (SI k) (SI s)) [(z 4)]) = allP [OpFact .rem (S8 a) (z 6660) (z 4)] := by kernel_rfl
theorem go_t2 (a m k s : Int) : holdsR (segE cx6 fun6.res (sR (sR (sR (sR (sR fun6.sc))))) (X2 a m (SI 14) (SI k) (SI s)) [(z 1028)]) = allP [OpFact .rem (S8 a) (z 6660) (z 1028)] := by kernel_rfl
theorem go_x5 (a m k s c : Int) : rr (segR cx6 pB 1 (W5_5 a m (SI 14) (SI k) (SI s) (SI c)) [F_] 2 [0, 1, 6, 7, 8] [8, 1, 0, 6, 7]) (X5 a m (SI 14) (SI k) (SI s)) [OpFact .lss (SI 14) (z 448) F_] := by show _ = _; kernel_rfl
theorem go_d9 (a m : Int) : rr (seg cx6 (sL (sR (sR (sR fun6.sc)))) (Pc9 a m) [] 0 [0, 1, 2, 3, 4, 5] []) (Pd9 a m) [] := by show _ = _; kernel_rfl
theorem go_x12 (a m k s c : Int) : rr (segR cx6 pB 1 (W12_12 a m (SI 14) (SI k) (SI s) (SI c)) [F_] 2 [0, 1, 6, 7, 8] [8, 1, 0, 6, 7]) (X12 a m (SI 14) (SI k) (SI s)) [OpFact .lss (SI 14) (z 448) F_] := by show _ = _; kernel_rfl
end Go.M
