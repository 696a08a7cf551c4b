/-
  Parts of ReceiveOrder, run by the machine.
  The numbers are those of bytes.
-/
import Derived.Test.YtgnhijkjlebcmaaGreatAw31
import Derived.Test.YtgnhijkjlebcmaaGreatSt6
import Derived.KernelRfl
set_option linter.unusedVariables false
set_option linter.unusedSectionVars false
set_option maxRecDepth 100000
namespace Go.M
open Go Go.Proofs
theorem go_r11_6_2 (a m : Int) : rr (segR cx6 pB 1 (W11_6 a m (z 32) (z 192) (z 352) (z 768)) [(z 2564)] 0 [0, 1, 2, 549, 592, 597, 762, 766, 1447] [1447]) (W11_11 a m (z 64) (z 160) (z 352) (z 832)) [OpFact .rem (S8 m) (z 3076) (z 2564)] := by show _ = _; kernel_rfl
theorem go_r12_4_3 (a m : Int) : rr (segR cx6 pB 1 (W12_8 a m (z 64) (z 128) (z 352) (z 896)) [(z 1540)] 0 [0, 1, 2, 515, 562, 567, 742, 746, 1353] [1353]) (W12_12 a m (z 96) (z 128) (z 352) (z 960)) [OpFact .rem (S8 m) (z 3076) (z 1540)] := by show _ = _; kernel_rfl
theorem go_r12_2_6 (a m : Int) : rr (segR cx6 pB 1 (W12_10 a m (z 160) (z 64) (z 352) (z 1088)) [(z 516)] 0 [0, 1, 2, 381, 428, 433, 604, 608, 1001] [1001]) (W12_12 a m (z 192) (z 64) (z 352) (z 1152)) [OpFact .rem (S8 m) (z 3076) (z 516)] := by show _ = _; kernel_rfl
theorem go_r12_1_11 (a m : Int) : rr (segR cx6 pB 1 (W12_10 a m (z 320) (z 32) (z 352) (z 1408)) [(z 4)] 0 [0, 1, 2, 323, 366, 371, 550, 554, 843] [843]) (W12_11 a m (z 352) (z 32) (z 352) (z 1472)) [OpFact .rem (S8 m) (z 3076) (z 4)] := by show _ = _; kernel_rfl
theorem go_r10_5_1 (a m : Int) : rr (segR cx6 pB 1 (W10_0 a m (z 0) (z 14) (z 14) (z 640)) [(z 2052)] 0 [0, 1, 2, 551, 570, 575, 778, 782, 1437] [1437]) (W10_5 a m (z 32) (z 160) (z 352) (z 704)) [OpFact .rem (S8 m) (z 3076) (z 2052)] := by show _ = _; kernel_rfl
theorem go_r10_1_10 (a m : Int) : rr (segR cx6 pB 1 (W10_9 a m (z 288) (z 32) (z 352) (z 1216)) [(z 4)] 0 [0, 1, 2, 280, 319, 324, 469, 473, 725] [725]) (W10_10 a m (z 320) (z 32) (z 352) (z 1280)) [OpFact .rem (S8 m) (z 3076) (z 4)] := by show _ = _; kernel_rfl
theorem go_r8_6_2 (a m : Int) : rr (segR cx6 pB 1 (W8_6 a m (z 32) (z 192) (z 352) (z 576)) [(z 2564)] 0 [0, 1, 2, 297, 328, 333, 456, 460, 769] [769]) (W8_8 a m (z 64) (z 64) (z 352) (z 640)) [OpFact .rem (S8 m) (z 3076) (z 2564)] := by show _ = _; kernel_rfl
theorem go_r8_2_4 (a m : Int) : rr (segR cx6 pB 1 (W8_6 a m (z 96) (z 64) (z 352) (z 704)) [(z 516)] 0 [0, 1, 2, 297, 328, 333, 456, 460, 769] [769]) (W8_8 a m (z 128) (z 64) (z 352) (z 768)) [OpFact .rem (S8 m) (z 3076) (z 516)] := by show _ = _; kernel_rfl
theorem go_r12_2_2 (a m : Int) : rr (segR cx6 pB 1 (W12_2 a m (z 32) (z 64) (z 352) (z 832)) [(z 516)] 0 [0, 1, 2, 453, 468, 473, 724, 728, 1145] [1145]) (W12_4 a m (z 64) (z 64) (z 352) (z 896)) [OpFact .rem (S8 m) (z 3076) (z 516)] := by show _ = _; kernel_rfl
theorem go_r7_1_7 (a m : Int) : rr (segR cx6 pB 1 (W7_6 a m (z 192) (z 32) (z 352) (z 832)) [(z 4)] 0 [0, 1, 2, 229, 256, 261, 370, 374, 575] [575]) (W7_7 a m (z 224) (z 32) (z 352) (z 896)) [OpFact .rem (S8 m) (z 3076) (z 4)] := by show _ = _; kernel_rfl
theorem go_r8_1_7 (a m : Int) : rr (segR cx6 pB 1 (W8_6 a m (z 192) (z 32) (z 352) (z 896)) [(z 4)] 0 [0, 1, 2, 255, 282, 287, 418, 422, 643] [643]) (W8_7 a m (z 224) (z 32) (z 352) (z 960)) [OpFact .rem (S8 m) (z 3076) (z 4)] := by show _ = _; kernel_rfl
theorem go_r7_3_1 (a m : Int) : rr (segR cx6 pB 1 (W7_0 a m (z 0) (z 14) (z 14) (z 448)) [(z 1028)] 0 [0, 1, 2, 349, 360, 365, 518, 522, 901] [901]) (W7_3 a m (z 32) (z 96) (z 352) (z 512)) [OpFact .rem (S8 m) (z 3076) (z 1028)] := by show _ = _; kernel_rfl
theorem go_r5_4_1 (a m : Int) : rr (segR cx6 pB 1 (W5_0 a m (z 0) (z 14) (z 14) (z 320)) [(z 1540)] 0 [0, 1, 2, 311, 326, 331, 432, 436, 835] [835]) (W5_4 a m (z 32) (z 128) (z 352) (z 384)) [OpFact .rem (S8 m) (z 3076) (z 1540)] := by show _ = _; kernel_rfl
theorem go_r5_3_1 (a m : Int) : rr (segR cx6 pB 1 (W5_0 a m (z 0) (z 14) (z 14) (z 320)) [(z 1028)] 0 [0, 1, 2, 281, 292, 297, 406, 410, 733] [733]) (W5_3 a m (z 32) (z 96) (z 352) (z 384)) [OpFact .rem (S8 m) (z 3076) (z 1028)] := by show _ = _; kernel_rfl
theorem go_a (a m : Int) : rr (seg cx6 (sL fun6.sc) ⟨[S8 a, S8 m], 0, []⟩ [] 0 [] []) (Pa a m) [] := by show _ = _; kernel_rfl
theorem go_r3_5_1 (a m : Int) : rr (segR cx6 pB 1 (W3_0 a m (z 0) (z 14) (z 14) (z 192)) [(z 2052)] 0 [0, 1, 2, 213, 224, 229, 294, 298, 565] [565]) (W3_3 a m (z 32) (z 96) (z 352) (z 256)) [OpFact .rem (S8 m) (z 3076) (z 2052)] := by show _ = _; kernel_rfl
theorem go_r4_3_2 (a m : Int) : rr (segR cx6 pB 1 (W4_3 a m (z 32) (z 96) (z 352) (z 320)) [(z 1028)] 0 [0, 1, 2, 178, 193, 198, 271, 275, 425] [425]) (W4_4 a m (z 64) (z 32) (z 352) (z 384)) [OpFact .rem (S8 m) (z 3076) (z 1028)] := by show _ = _; kernel_rfl
theorem go_r2_4_1 (a m : Int) : rr (segR cx6 pB 1 (W2_0 a m (z 0) (z 14) (z 14) (z 128)) [(z 1540)] 0 [0, 1, 2, 161, 168, 173, 224, 228, 403] [403]) (W2_2 a m (z 32) (z 64) (z 352) (z 192)) [OpFact .rem (S8 m) (z 3076) (z 1540)] := by show _ = _; kernel_rfl
theorem go_r4_1_1 (a m : Int) : rr (segR cx6 pB 1 (W4_0 a m (z 0) (z 14) (z 14) (z 256)) [(z 4)] 0 [0, 1, 2, 198, 201, 203, 306, 310, 461] [461]) (W4_1 a m (z 32) (z 32) (z 352) (z 320)) [OpFact .rem (S8 m) (z 3076) (z 4)] := by show _ = _; kernel_rfl
theorem go_r1_2_1 (a m : Int) : rr (segR cx6 pB 1 (W1_0 a m (z 0) (z 14) (z 14) (z 64)) [(z 516)] 0 [0, 1, 2, 120, 123, 125, 162, 166, 257] [257]) (W1_1 a m (z 32) (z 32) (z 352) (z 128)) [OpFact .rem (S8 m) (z 3076) (z 516)] := by show _ = _; kernel_rfl
theorem go_r1_5_1 (a m : Int) : rr (segR cx6 pB 1 (W1_0 a m (z 0) (z 14) (z 14) (z 64)) [(z 2052)] 0 [0, 1, 2, 120, 123, 125, 162, 166, 257] [257]) (W1_1 a m (z 32) (z 32) (z 352) (z 128)) [OpFact .rem (S8 m) (z 3076) (z 2052)] := by show _ = _; kernel_rfl
theorem go_n1_6 (a m i c k s : Int) : rr (segR cx6 pB 1 (W1_1 a m (SI i) (SI k) (SI s) (SI c)) (qE i c (z 2564)) 0 [0, 1, 2, 3, 4, 5, 135, 139, 141] [141]) (W1_1 a m (SI (i + 1)) (z 0) (z 320) (SI (c + 2))) (fE m i c (z 2564)) := by show _ = _; kernel_rfl
theorem go_r0_4_1 (a m : Int) : rr (segR cx6 pB 1 (W0_0 a m (z 0) (z 14) (z 14) (z 0)) [(z 1540)] 0 [0, 1, 2, 3, 105, 109, 111] [111]) (W0_1 a m (z 32) (z 0) (z 320) (z 64)) [OpFact .rem (S8 m) (z 3076) (z 1540)] := by show _ = _; kernel_rfl
theorem go_e4 (a m : Int) : rr (seg cx6 (sL (sL (sR (sR (sR (sR fun6.sc)))))) (Pd4 a m) [] 0 [0, 1, 2, 3, 4, 5] []) (W4_0 a m (z 0) (z 14) (z 14) (z 256)) [] := by show _ = _; kernel_rfl
theorem go_t7 (a m k s : Int) : holdsR (segE cx6 fun6.res (sR (sR (sR (sR (sR fun6.sc))))) (X7 a m (SI 14) (SI k) (SI s)) [(z 3588)]) = allP [OpFact .rem (S8 a) (z 6660) (z 3588)] := by kernel_rfl
theorem go_e11 (a m : Int) : rr (seg cx6 (sL (sL (sR (sR (sR (sR fun6.sc)))))) (Pd11 a m) [] 0 [0, 1, 2, 3, 4, 5] []) (W11_0 a m (z 0) (z 14) (z 14) (z 704)) [] := by show _ = _; kernel_rfl
end Go.M
