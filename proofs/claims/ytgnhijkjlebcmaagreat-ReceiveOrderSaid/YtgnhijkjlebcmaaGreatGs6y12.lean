/-
  Parts of ReceiveOrder, run by the machine.
  The numbers are those of bytes.
-/
import Derived.Test.YtgnhijkjlebcmaaGreatAw31
import Derived.Test.YtgnhijkjlebcmaaGreatSt6
import Derived.KernelRfl
set_option linter.unusedVariables false
set_option linter.unusedSectionVars false
set_option maxRecDepth 100000
namespace Go.M
open Go Go.Proofs
theorem go_r11_6_1 (a m : Int) : rr (segR cx6 pB 1 (W11_0 a m (z 0) (z 14) (z 14) (z 704)) [(z 2564)] 0 [0, 1, 2, 647, 670, 675, 892, 896, 1687] [1687]) (W11_6 a m (z 32) (z 192) (z 352) (z 768)) [OpFact .rem (S8 m) (z 3076) (z 2564)] := by show _ = _; kernel_rfl
theorem go_r11_5_1 (a m : Int) : rr (segR cx6 pB 1 (W11_0 a m (z 0) (z 14) (z 14) (z 704)) [(z 2052)] 0 [0, 1, 2, 593, 612, 617, 842, 846, 1537] [1537]) (W11_5 a m (z 32) (z 160) (z 352) (z 768)) [OpFact .rem (S8 m) (z 3076) (z 2052)] := by show _ = _; kernel_rfl
theorem go_c5 (a m : Int) : rr (seg cx6 (sL (sR (sR fun6.sc))) (Pb a m) [(z 2564)] 0 [1, 5, 12, 1267, 1399, 1406] []) (Pc5 a m) [OpFact .rem (S8 a) (z 6660) (z 2564)] := by show _ = _; kernel_rfl
theorem go_r12_1_3 (a m : Int) : rr (segR cx6 pB 1 (W12_2 a m (z 64) (z 32) (z 352) (z 896)) [(z 4)] 0 [0, 1, 2, 395, 406, 411, 670, 674, 987] [987]) (W12_3 a m (z 96) (z 32) (z 352) (z 960)) [OpFact .rem (S8 m) (z 3076) (z 4)] := by show _ = _; kernel_rfl
theorem go_r9_6_1 (a m : Int) : rr (segR cx6 pB 1 (W9_0 a m (z 0) (z 14) (z 14) (z 576)) [(z 2564)] 0 [0, 1, 2, 555, 578, 583, 756, 760, 1471] [1471]) (W9_6 a m (z 32) (z 192) (z 352) (z 640)) [OpFact .rem (S8 m) (z 3076) (z 2564)] := by show _ = _; kernel_rfl
theorem go_r11_1_9 (a m : Int) : rr (segR cx6 pB 1 (W11_8 a m (z 256) (z 32) (z 352) (z 1216)) [(z 4)] 0 [0, 1, 2, 315, 350, 355, 532, 536, 811] [811]) (W11_9 a m (z 288) (z 32) (z 352) (z 1280)) [OpFact .rem (S8 m) (z 3076) (z 4)] := by show _ = _; kernel_rfl
theorem go_r10_4_1 (a m : Int) : rr (segR cx6 pB 1 (W10_0 a m (z 0) (z 14) (z 14) (z 640)) [(z 1540)] 0 [0, 1, 2, 501, 516, 521, 732, 736, 1295] [1295]) (W10_4 a m (z 32) (z 128) (z 352) (z 704)) [OpFact .rem (S8 m) (z 3076) (z 1540)] := by show _ = _; kernel_rfl
theorem go_r9_2_5 (a m : Int) : rr (segR cx6 pB 1 (W9_8 a m (z 128) (z 64) (z 352) (z 832)) [(z 516)] 0 [0, 1, 2, 263, 298, 303, 436, 440, 675] [675]) (W9_9 a m (z 160) (z 32) (z 352) (z 896)) [OpFact .rem (S8 m) (z 3076) (z 516)] := by show _ = _; kernel_rfl
theorem go_r10_3_1 (a m : Int) : rr (segR cx6 pB 1 (W10_0 a m (z 0) (z 14) (z 14) (z 640)) [(z 1028)] 0 [0, 1, 2, 451, 462, 467, 686, 690, 1153] [1153]) (W10_3 a m (z 32) (z 96) (z 352) (z 704)) [OpFact .rem (S8 m) (z 3076) (z 1028)] := by show _ = _; kernel_rfl
theorem go_r9_2_3 (a m : Int) : rr (segR cx6 pB 1 (W9_4 a m (z 64) (z 64) (z 352) (z 704)) [(z 516)] 0 [0, 1, 2, 345, 368, 373, 538, 542, 881] [881]) (W9_6 a m (z 96) (z 64) (z 352) (z 768)) [OpFact .rem (S8 m) (z 3076) (z 516)] := by show _ = _; kernel_rfl
theorem go_r8_2_2 (a m : Int) : rr (segR cx6 pB 1 (W8_2 a m (z 32) (z 64) (z 352) (z 576)) [(z 516)] 0 [0, 1, 2, 333, 348, 353, 516, 520, 841] [841]) (W8_4 a m (z 64) (z 64) (z 352) (z 640)) [OpFact .rem (S8 m) (z 3076) (z 516)] := by show _ = _; kernel_rfl
theorem go_r9_2_2 (a m : Int) : rr (segR cx6 pB 1 (W9_2 a m (z 32) (z 64) (z 352) (z 640)) [(z 516)] 0 [0, 1, 2, 363, 378, 383, 568, 572, 917] [917]) (W9_4 a m (z 64) (z 64) (z 352) (z 704)) [OpFact .rem (S8 m) (z 3076) (z 516)] := by show _ = _; kernel_rfl
theorem go_r6_1_6 (a m : Int) : rr (segR cx6 pB 1 (W6_5 a m (z 160) (z 32) (z 352) (z 704)) [(z 4)] 0 [0, 1, 2, 212, 235, 240, 337, 341, 525] [525]) (W6_6 a m (z 192) (z 32) (z 352) (z 768)) [OpFact .rem (S8 m) (z 3076) (z 4)] := by show _ = _; kernel_rfl
theorem go_r5_3_2 (a m : Int) : rr (segR cx6 pB 1 (W5_3 a m (z 32) (z 96) (z 352) (z 384)) [(z 1028)] 0 [0, 1, 2, 234, 253, 258, 345, 349, 595] [595]) (W5_5 a m (z 64) (z 64) (z 352) (z 448)) [OpFact .rem (S8 m) (z 3076) (z 1028)] := by show _ = _; kernel_rfl
theorem go_r5_2_3 (a m : Int) : rr (segR cx6 pB 1 (W5_4 a m (z 64) (z 64) (z 352) (z 448)) [(z 516)] 0 [0, 1, 2, 195, 214, 219, 304, 308, 475] [475]) (W5_5 a m (z 96) (z 32) (z 352) (z 512)) [OpFact .rem (S8 m) (z 3076) (z 516)] := by show _ = _; kernel_rfl
theorem go_r4_2_2 (a m : Int) : rr (segR cx6 pB 1 (W4_2 a m (z 32) (z 64) (z 352) (z 320)) [(z 516)] 0 [0, 1, 2, 213, 228, 233, 308, 312, 537] [537]) (W4_4 a m (z 64) (z 64) (z 352) (z 384)) [OpFact .rem (S8 m) (z 3076) (z 516)] := by show _ = _; kernel_rfl
theorem go_r4_1_4 (a m : Int) : rr (segR cx6 pB 1 (W4_3 a m (z 96) (z 32) (z 352) (z 448)) [(z 4)] 0 [0, 1, 2, 178, 193, 198, 271, 275, 425] [425]) (W4_4 a m (z 128) (z 32) (z 352) (z 512)) [OpFact .rem (S8 m) (z 3076) (z 4)] := by show _ = _; kernel_rfl
theorem go_r5_1_2 (a m : Int) : rr (segR cx6 pB 1 (W5_1 a m (z 32) (z 32) (z 352) (z 384)) [(z 4)] 0 [0, 1, 2, 222, 229, 234, 349, 353, 529] [529]) (W5_2 a m (z 64) (z 32) (z 352) (z 448)) [OpFact .rem (S8 m) (z 3076) (z 4)] := by show _ = _; kernel_rfl
theorem go_n6_4 (a m i c k s : Int) : rr (segR cx6 pB 1 (W6_6 a m (SI i) (SI k) (SI s) (SI c)) (qE i c (z 1540)) 0 [0, 1, 2, 3, 4, 5, 260, 264, 266] [266]) (W6_6 a m (SI (i + 1)) (z 0) (z 320) (SI (c + 2))) (fE m i c (z 1540)) := by show _ = _; kernel_rfl
theorem go_n6_1 (a m i c k s : Int) : rr (segR cx6 pB 1 (W6_6 a m (SI i) (SI k) (SI s) (SI c)) (qE i c (z 4)) 0 [0, 1, 2, 3, 4, 5, 260, 264, 266] [266]) (W6_6 a m (SI (i + 1)) (z 0) (z 320) (SI (c + 2))) (fE m i c (z 4)) := by show _ = _; kernel_rfl
theorem go_n3_2 (a m i c k s : Int) : rr (segR cx6 pB 1 (W3_3 a m (SI i) (SI k) (SI s) (SI c)) (qE i c (z 516)) 0 [0, 1, 2, 3, 4, 5, 185, 189, 191] [191]) (W3_3 a m (SI (i + 1)) (z 0) (z 320) (SI (c + 2))) (fE m i c (z 516)) := by show _ = _; kernel_rfl
theorem go_n1_1 (a m i c k s : Int) : rr (segR cx6 pB 1 (W1_1 a m (SI i) (SI k) (SI s) (SI c)) (qE i c (z 4)) 0 [0, 1, 2, 3, 4, 5, 135, 139, 141] [141]) (W1_1 a m (SI (i + 1)) (z 0) (z 320) (SI (c + 2))) (fE m i c (z 4)) := by show _ = _; kernel_rfl
theorem go_n0_4 (a m i c k s : Int) : rr (segR cx6 pB 1 (W0_1 a m (SI i) (SI k) (SI s) (SI c)) (qE i c (z 1540)) 0 [0, 1, 2, 3, 106, 110, 112] [112]) (W0_1 a m (SI (i + 1)) (z 0) (z 320) (SI (c + 2))) (fE m i c (z 1540)) := by show _ = _; kernel_rfl
theorem go_x4 (a m k s c : Int) : rr (segR cx6 pB 1 (W4_4 a m (SI 14) (SI k) (SI s) (SI c)) [F_] 2 [0, 1, 6, 7, 8] [8, 1, 0, 6, 7]) (X4 a m (SI 14) (SI k) (SI s)) [OpFact .lss (SI 14) (z 448) F_] := by show _ = _; kernel_rfl
theorem go_d8 (a m : Int) : rr (seg cx6 (sL (sR (sR (sR fun6.sc)))) (Pc8 a m) [] 0 [0, 1, 2, 3, 4, 5] []) (Pd8 a m) [] := by show _ = _; kernel_rfl
theorem go_x11 (a m k s c : Int) : rr (segR cx6 pB 1 (W11_11 a m (SI 14) (SI k) (SI s) (SI c)) [F_] 2 [0, 1, 6, 7, 8] [8, 1, 0, 6, 7]) (X11 a m (SI 14) (SI k) (SI s)) [OpFact .lss (SI 14) (z 448) F_] := by show _ = _; kernel_rfl
end Go.M
