/-
  Parts of ReceiveOrder, run by the machine.
  The numbers are those of bytes.
-/
import Derived.Test.YtgnhijkjlebcmaaGreatAw31
import Derived.Test.YtgnhijkjlebcmaaGreatSt6
import Derived.KernelRfl
set_option linter.unusedVariables false
set_option linter.unusedSectionVars false
set_option maxRecDepth 100000
namespace Go.M
open Go Go.Proofs
theorem go_c7 (a m : Int) : rr (seg cx6 (sL (sR (sR fun6.sc))) (Pb a m) [(z 3588)] 0 [1, 5, 12, 2179, 2355, 2362] []) (Pc7 a m) [OpFact .rem (S8 a) (z 6660) (z 3588)] := by show _ = _; kernel_rfl
theorem go_r11_3_3 (a m : Int) : rr (segR cx6 pB 1 (W11_6 a m (z 64) (z 96) (z 352) (z 832)) [(z 1028)] 0 [0, 1, 2, 441, 476, 481, 662, 666, 1147] [1147]) (W11_9 a m (z 96) (z 96) (z 352) (z 896)) [OpFact .rem (S8 m) (z 3076) (z 1028)] := by show _ = _; kernel_rfl
theorem go_r12_3_3 (a m : Int) : rr (segR cx6 pB 1 (W12_6 a m (z 64) (z 96) (z 352) (z 896)) [(z 1028)] 0 [0, 1, 2, 475, 510, 515, 718, 722, 1231] [1231]) (W12_9 a m (z 96) (z 96) (z 352) (z 960)) [OpFact .rem (S8 m) (z 3076) (z 1028)] := by show _ = _; kernel_rfl
theorem go_r11_1_10 (a m : Int) : rr (segR cx6 pB 1 (W11_9 a m (z 288) (z 32) (z 352) (z 1280)) [(z 4)] 0 [0, 1, 2, 306, 345, 350, 517, 521, 793] [793]) (W11_10 a m (z 320) (z 32) (z 352) (z 1344)) [OpFact .rem (S8 m) (z 3076) (z 4)] := by show _ = _; kernel_rfl
theorem go_r12_1_10 (a m : Int) : rr (segR cx6 pB 1 (W12_9 a m (z 288) (z 32) (z 352) (z 1344)) [(z 4)] 0 [0, 1, 2, 332, 371, 376, 565, 569, 861] [861]) (W12_10 a m (z 320) (z 32) (z 352) (z 1408)) [OpFact .rem (S8 m) (z 3076) (z 4)] := by show _ = _; kernel_rfl
theorem go_n11_5 (a m i c k s : Int) : rr (segR cx6 pB 1 (W11_11 a m (SI i) (SI k) (SI s) (SI c)) (qE i c (z 2052)) 0 [0, 1, 2, 3, 4, 5, 385, 389, 391] [391]) (W11_11 a m (SI (i + 1)) (z 0) (z 320) (SI (c + 2))) (fE m i c (z 2052)) := by show _ = _; kernel_rfl
theorem go_r9_1_9 (a m : Int) : rr (segR cx6 pB 1 (W9_8 a m (z 256) (z 32) (z 352) (z 1088)) [(z 4)] 0 [0, 1, 2, 263, 298, 303, 436, 440, 675] [675]) (W9_9 a m (z 288) (z 32) (z 352) (z 1152)) [OpFact .rem (S8 m) (z 3076) (z 4)] := by show _ = _; kernel_rfl
theorem go_r9_4_3 (a m : Int) : rr (segR cx6 pB 1 (W9_8 a m (z 64) (z 128) (z 352) (z 704)) [(z 1540)] 0 [0, 1, 2, 263, 298, 303, 436, 440, 675] [675]) (W9_9 a m (z 96) (z 32) (z 352) (z 768)) [OpFact .rem (S8 m) (z 3076) (z 1540)] := by show _ = _; kernel_rfl
theorem go_r7_2_3 (a m : Int) : rr (segR cx6 pB 1 (W7_4 a m (z 64) (z 64) (z 352) (z 576)) [(z 516)] 0 [0, 1, 2, 285, 308, 313, 434, 438, 729] [729]) (W7_6 a m (z 96) (z 64) (z 352) (z 640)) [OpFact .rem (S8 m) (z 3076) (z 516)] := by show _ = _; kernel_rfl
theorem go_r11_2_1 (a m : Int) : rr (segR cx6 pB 1 (W11_0 a m (z 0) (z 14) (z 14) (z 704)) [(z 516)] 0 [0, 1, 2, 431, 438, 443, 692, 696, 1087] [1087]) (W11_2 a m (z 32) (z 64) (z 352) (z 768)) [OpFact .rem (S8 m) (z 3076) (z 516)] := by show _ = _; kernel_rfl
theorem go_r11_1_2 (a m : Int) : rr (segR cx6 pB 1 (W11_1 a m (z 32) (z 32) (z 352) (z 768)) [(z 4)] 0 [0, 1, 2, 378, 385, 390, 637, 641, 937] [937]) (W11_2 a m (z 64) (z 32) (z 352) (z 832)) [OpFact .rem (S8 m) (z 3076) (z 4)] := by show _ = _; kernel_rfl
theorem go_r10_1_3 (a m : Int) : rr (segR cx6 pB 1 (W10_2 a m (z 64) (z 32) (z 352) (z 768)) [(z 4)] 0 [0, 1, 2, 343, 354, 359, 574, 578, 851] [851]) (W10_3 a m (z 96) (z 32) (z 352) (z 832)) [OpFact .rem (S8 m) (z 3076) (z 4)] := by show _ = _; kernel_rfl
theorem go_r7_1_1 (a m : Int) : rr (segR cx6 pB 1 (W7_0 a m (z 0) (z 14) (z 14) (z 448)) [(z 4)] 0 [0, 1, 2, 276, 279, 281, 450, 454, 665] [665]) (W7_1 a m (z 32) (z 32) (z 352) (z 512)) [OpFact .rem (S8 m) (z 3076) (z 4)] := by show _ = _; kernel_rfl
theorem go_r3_2_1 (a m : Int) : rr (segR cx6 pB 1 (W3_0 a m (z 0) (z 14) (z 14) (z 192)) [(z 516)] 0 [0, 1, 2, 191, 198, 203, 276, 280, 479] [479]) (W3_2 a m (z 32) (z 64) (z 352) (z 256)) [OpFact .rem (S8 m) (z 3076) (z 516)] := by show _ = _; kernel_rfl
theorem go_c2 (a m : Int) : rr (seg cx6 (sL (sR (sR fun6.sc))) (Pb a m) [(z 1028)] 0 [1, 5, 12, 319, 385, 392] []) (Pc2 a m) [OpFact .rem (S8 a) (z 6660) (z 1028)] := by show _ = _; kernel_rfl
theorem go_r6_1_2 (a m : Int) : rr (segR cx6 pB 1 (W6_1 a m (z 32) (z 32) (z 352) (z 448)) [(z 4)] 0 [0, 1, 2, 248, 255, 260, 397, 401, 597] [597]) (W6_2 a m (z 64) (z 32) (z 352) (z 512)) [OpFact .rem (S8 m) (z 3076) (z 4)] := by show _ = _; kernel_rfl
theorem go_n7_4 (a m i c k s : Int) : rr (segR cx6 pB 1 (W7_7 a m (SI i) (SI k) (SI s) (SI c)) (qE i c (z 1540)) 0 [0, 1, 2, 3, 4, 5, 285, 289, 291] [291]) (W7_7 a m (SI (i + 1)) (z 0) (z 320) (SI (c + 2))) (fE m i c (z 1540)) := by show _ = _; kernel_rfl
theorem go_r5_1_1 (a m : Int) : rr (segR cx6 pB 1 (W5_0 a m (z 0) (z 14) (z 14) (z 320)) [(z 4)] 0 [0, 1, 2, 224, 227, 229, 354, 358, 529] [529]) (W5_1 a m (z 32) (z 32) (z 352) (z 384)) [OpFact .rem (S8 m) (z 3076) (z 4)] := by show _ = _; kernel_rfl
theorem go_n6_6 (a m i c k s : Int) : rr (segR cx6 pB 1 (W6_6 a m (SI i) (SI k) (SI s) (SI c)) (qE i c (z 2564)) 0 [0, 1, 2, 3, 4, 5, 260, 264, 266] [266]) (W6_6 a m (SI (i + 1)) (z 0) (z 320) (SI (c + 2))) (fE m i c (z 2564)) := by show _ = _; kernel_rfl
theorem go_n1_3 (a m i c k s : Int) : rr (segR cx6 pB 1 (W1_1 a m (SI i) (SI k) (SI s) (SI c)) (qE i c (z 1028)) 0 [0, 1, 2, 3, 4, 5, 135, 139, 141] [141]) (W1_1 a m (SI (i + 1)) (z 0) (z 320) (SI (c + 2))) (fE m i c (z 1028)) := by show _ = _; kernel_rfl
theorem go_n3_5 (a m i c k s : Int) : rr (segR cx6 pB 1 (W3_3 a m (SI i) (SI k) (SI s) (SI c)) (qE i c (z 2052)) 0 [0, 1, 2, 3, 4, 5, 185, 189, 191] [191]) (W3_3 a m (SI (i + 1)) (z 0) (z 320) (SI (c + 2))) (fE m i c (z 2052)) := by show _ = _; kernel_rfl
theorem go_n0_6 (a m i c k s : Int) : rr (segR cx6 pB 1 (W0_1 a m (SI i) (SI k) (SI s) (SI c)) (qE i c (z 2564)) 0 [0, 1, 2, 3, 106, 110, 112] [112]) (W0_1 a m (SI (i + 1)) (z 0) (z 320) (SI (c + 2))) (fE m i c (z 2564)) := by show _ = _; kernel_rfl
theorem go_x1 (a m k s c : Int) : rr (segR cx6 pB 1 (W1_1 a m (SI 14) (SI k) (SI s) (SI c)) [F_] 2 [0, 1, 6, 7, 8] [8, 1, 0, 6, 7]) (X1 a m (SI 14) (SI k) (SI s)) [OpFact .lss (SI 14) (z 448) F_] := by show _ = _; kernel_rfl
theorem go_x3 (a m k s c : Int) : rr (segR cx6 pB 1 (W3_3 a m (SI 14) (SI k) (SI s) (SI c)) [F_] 2 [0, 1, 6, 7, 8] [8, 1, 0, 6, 7]) (X3 a m (SI 14) (SI k) (SI s)) [OpFact .lss (SI 14) (z 448) F_] := by show _ = _; kernel_rfl
theorem go_d7 (a m : Int) : rr (seg cx6 (sL (sR (sR (sR fun6.sc)))) (Pc7 a m) [] 0 [0, 1, 2, 3, 4, 5] []) (Pd7 a m) [] := by show _ = _; kernel_rfl
theorem go_x10 (a m k s c : Int) : rr (segR cx6 pB 1 (W10_10 a m (SI 14) (SI k) (SI s) (SI c)) [F_] 2 [0, 1, 6, 7, 8] [8, 1, 0, 6, 7]) (X10 a m (SI 14) (SI k) (SI s)) [OpFact .lss (SI 14) (z 448) F_] := by show _ = _; kernel_rfl
end Go.M
