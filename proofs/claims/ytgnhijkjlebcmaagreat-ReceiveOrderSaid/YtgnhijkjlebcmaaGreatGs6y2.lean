/-
  Parts of ReceiveOrder, run by the machine.
  The numbers are those of bytes.
-/
import Derived.Test.YtgnhijkjlebcmaaGreatAw31
import Derived.Test.YtgnhijkjlebcmaaGreatSt6
import Derived.KernelRfl
set_option linter.unusedVariables false
set_option linter.unusedSectionVars false
set_option maxRecDepth 100000
namespace Go.M
open Go Go.Proofs
theorem go_c9 (a m : Int) : rr (seg cx6 (sL (sR (sR fun6.sc))) (Pb a m) [(z 4612)] 0 [1, 5, 12, 3315, 3535, 3542] []) (Pc9 a m) [OpFact .rem (S8 a) (z 6660) (z 4612)] := by show _ = _; kernel_rfl
theorem go_r12_5_1 (a m : Int) : rr (segR cx6 pB 1 (W12_0 a m (z 0) (z 14) (z 14) (z 768)) [(z 2052)] 0 [0, 1, 2, 635, 654, 659, 906, 910, 1637] [1637]) (W12_5 a m (z 32) (z 160) (z 352) (z 832)) [OpFact .rem (S8 m) (z 3076) (z 2052)] := by show _ = _; kernel_rfl
theorem go_r9_4_2 (a m : Int) : rr (segR cx6 pB 1 (W9_4 a m (z 32) (z 128) (z 352) (z 640)) [(z 1540)] 0 [0, 1, 2, 437, 468, 473, 622, 626, 1149] [1149]) (W9_8 a m (z 64) (z 128) (z 352) (z 704)) [OpFact .rem (S8 m) (z 3076) (z 1540)] := by show _ = _; kernel_rfl
theorem go_r12_3_2 (a m : Int) : rr (segR cx6 pB 1 (W12_3 a m (z 32) (z 96) (z 352) (z 832)) [(z 1028)] 0 [0, 1, 2, 502, 525, 530, 763, 767, 1285] [1285]) (W12_6 a m (z 64) (z 96) (z 352) (z 896)) [OpFact .rem (S8 m) (z 3076) (z 1028)] := by show _ = _; kernel_rfl
theorem go_r8_5_1 (a m : Int) : rr (segR cx6 pB 1 (W8_0 a m (z 0) (z 14) (z 14) (z 512)) [(z 2052)] 0 [0, 1, 2, 467, 486, 491, 650, 654, 1237] [1237]) (W8_5 a m (z 32) (z 160) (z 352) (z 576)) [OpFact .rem (S8 m) (z 3076) (z 2052)] := by show _ = _; kernel_rfl
theorem go_n11_4 (a m i c k s : Int) : rr (segR cx6 pB 1 (W11_11 a m (SI i) (SI k) (SI s) (SI c)) (qE i c (z 1540)) 0 [0, 1, 2, 3, 4, 5, 385, 389, 391] [391]) (W11_11 a m (SI (i + 1)) (z 0) (z 320) (SI (c + 2))) (fE m i c (z 1540)) := by show _ = _; kernel_rfl
theorem go_r8_3_2 (a m : Int) : rr (segR cx6 pB 1 (W8_3 a m (z 32) (z 96) (z 352) (z 576)) [(z 1028)] 0 [0, 1, 2, 366, 389, 394, 539, 543, 949] [949]) (W8_6 a m (z 64) (z 96) (z 352) (z 640)) [OpFact .rem (S8 m) (z 3076) (z 1028)] := by show _ = _; kernel_rfl
theorem go_r12_1_5 (a m : Int) : rr (segR cx6 pB 1 (W12_4 a m (z 128) (z 32) (z 352) (z 1024)) [(z 4)] 0 [0, 1, 2, 377, 396, 401, 640, 644, 951] [951]) (W12_5 a m (z 160) (z 32) (z 352) (z 1088)) [OpFact .rem (S8 m) (z 3076) (z 4)] := by show _ = _; kernel_rfl
theorem go_r8_1_8 (a m : Int) : rr (segR cx6 pB 1 (W8_7 a m (z 224) (z 32) (z 352) (z 960)) [(z 4)] 0 [0, 1, 2, 246, 277, 282, 403, 407, 625] [625]) (W8_8 a m (z 256) (z 32) (z 352) (z 1024)) [OpFact .rem (S8 m) (z 3076) (z 4)] := by show _ = _; kernel_rfl
theorem go_n11_2 (a m i c k s : Int) : rr (segR cx6 pB 1 (W11_11 a m (SI i) (SI k) (SI s) (SI c)) (qE i c (z 516)) 0 [0, 1, 2, 3, 4, 5, 385, 389, 391] [391]) (W11_11 a m (SI (i + 1)) (z 0) (z 320) (SI (c + 2))) (fE m i c (z 516)) := by show _ = _; kernel_rfl
theorem go_r7_1_3 (a m : Int) : rr (segR cx6 pB 1 (W7_2 a m (z 64) (z 32) (z 352) (z 576)) [(z 4)] 0 [0, 1, 2, 265, 276, 281, 430, 434, 647] [647]) (W7_3 a m (z 96) (z 32) (z 352) (z 640)) [OpFact .rem (S8 m) (z 3076) (z 4)] := by show _ = _; kernel_rfl
theorem go_r11_1_1 (a m : Int) : rr (segR cx6 pB 1 (W11_0 a m (z 0) (z 14) (z 14) (z 704)) [(z 4)] 0 [0, 1, 2, 380, 383, 385, 642, 646, 937] [937]) (W11_1 a m (z 32) (z 32) (z 352) (z 768)) [OpFact .rem (S8 m) (z 3076) (z 4)] := by show _ = _; kernel_rfl
theorem go_r6_1_5 (a m : Int) : rr (segR cx6 pB 1 (W6_4 a m (z 128) (z 32) (z 352) (z 640)) [(z 4)] 0 [0, 1, 2, 221, 240, 245, 352, 356, 543] [543]) (W6_5 a m (z 160) (z 32) (z 352) (z 704)) [OpFact .rem (S8 m) (z 3076) (z 4)] := by show _ = _; kernel_rfl
theorem go_b (a m : Int) : rr (seg cx6 (sL (sR fun6.sc)) (Pa a m) [] 0 [] []) (Pb a m) [] := by show _ = _; kernel_rfl
theorem go_r8_1_2 (a m : Int) : rr (segR cx6 pB 1 (W8_1 a m (z 32) (z 32) (z 352) (z 576)) [(z 4)] 0 [0, 1, 2, 300, 307, 312, 493, 497, 733] [733]) (W8_2 a m (z 64) (z 32) (z 352) (z 640)) [OpFact .rem (S8 m) (z 3076) (z 4)] := by show _ = _; kernel_rfl
theorem go_r4_2_1 (a m : Int) : rr (segR cx6 pB 1 (W4_0 a m (z 0) (z 14) (z 14) (z 256)) [(z 516)] 0 [0, 1, 2, 221, 228, 233, 328, 332, 555] [555]) (W4_2 a m (z 32) (z 64) (z 352) (z 320)) [OpFact .rem (S8 m) (z 3076) (z 516)] := by show _ = _; kernel_rfl
theorem go_n9_2 (a m i c k s : Int) : rr (segR cx6 pB 1 (W9_9 a m (SI i) (SI k) (SI s) (SI c)) (qE i c (z 516)) 0 [0, 1, 2, 3, 4, 5, 335, 339, 341] [341]) (W9_9 a m (SI (i + 1)) (z 0) (z 320) (SI (c + 2))) (fE m i c (z 516)) := by show _ = _; kernel_rfl
theorem go_r2_5_1 (a m : Int) : rr (segR cx6 pB 1 (W2_0 a m (z 0) (z 14) (z 14) (z 128)) [(z 2052)] 0 [0, 1, 2, 161, 168, 173, 224, 228, 403] [403]) (W2_2 a m (z 32) (z 64) (z 352) (z 192)) [OpFact .rem (S8 m) (z 3076) (z 2052)] := by show _ = _; kernel_rfl
theorem go_n5_2 (a m i c k s : Int) : rr (segR cx6 pB 1 (W5_5 a m (SI i) (SI k) (SI s) (SI c)) (qE i c (z 516)) 0 [0, 1, 2, 3, 4, 5, 235, 239, 241] [241]) (W5_5 a m (SI (i + 1)) (z 0) (z 320) (SI (c + 2))) (fE m i c (z 516)) := by show _ = _; kernel_rfl
theorem go_n4_1 (a m i c k s : Int) : rr (segR cx6 pB 1 (W4_4 a m (SI i) (SI k) (SI s) (SI c)) (qE i c (z 4)) 0 [0, 1, 2, 3, 4, 5, 210, 214, 216] [216]) (W4_4 a m (SI (i + 1)) (z 0) (z 320) (SI (c + 2))) (fE m i c (z 4)) := by show _ = _; kernel_rfl
theorem go_n2_3 (a m i c k s : Int) : rr (segR cx6 pB 1 (W2_2 a m (SI i) (SI k) (SI s) (SI c)) (qE i c (z 1028)) 0 [0, 1, 2, 3, 4, 5, 160, 164, 166] [166]) (W2_2 a m (SI (i + 1)) (z 0) (z 320) (SI (c + 2))) (fE m i c (z 1028)) := by show _ = _; kernel_rfl
theorem go_r0_5_1 (a m : Int) : rr (segR cx6 pB 1 (W0_0 a m (z 0) (z 14) (z 14) (z 0)) [(z 2052)] 0 [0, 1, 2, 3, 105, 109, 111] [111]) (W0_1 a m (z 32) (z 0) (z 320) (z 64)) [OpFact .rem (S8 m) (z 3076) (z 2052)] := by show _ = _; kernel_rfl
theorem go_x6 (a m k s c : Int) : rr (segR cx6 pB 1 (W6_6 a m (SI 14) (SI k) (SI s) (SI c)) [F_] 2 [0, 1, 6, 7, 8] [8, 1, 0, 6, 7]) (X6 a m (SI 14) (SI k) (SI s)) [OpFact .lss (SI 14) (z 448) F_] := by show _ = _; kernel_rfl
theorem go_d10 (a m : Int) : rr (seg cx6 (sL (sR (sR (sR fun6.sc)))) (Pc10 a m) [] 0 [0, 1, 2, 3, 4, 5] []) (Pd10 a m) [] := by show _ = _; kernel_rfl
end Go.M
