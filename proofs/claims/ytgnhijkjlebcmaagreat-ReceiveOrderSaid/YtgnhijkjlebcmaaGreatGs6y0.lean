/-
  Parts of ReceiveOrder, run by the machine.
  The numbers are those of bytes.
-/
import Derived.Test.YtgnhijkjlebcmaaGreatAw31
import Derived.Test.YtgnhijkjlebcmaaGreatSt6
import Derived.KernelRfl
set_option linter.unusedVariables false
set_option linter.unusedSectionVars false
set_option maxRecDepth 100000
namespace Go.M
open Go Go.Proofs
theorem go_c11 (a m : Int) : rr (seg cx6 (sL (sR (sR fun6.sc))) (Pb a m) [(z 5636)] 0 [1, 5, 12, 4675, 4939, 4946] []) (Pc11 a m) [OpFact .rem (S8 a) (z 6660) (z 5636)] := by show _ = _; kernel_rfl
theorem go_r9_6_2 (a m : Int) : rr (segR cx6 pB 1 (W9_6 a m (z 32) (z 192) (z 352) (z 640)) [(z 2564)] 0 [0, 1, 2, 373, 408, 413, 550, 554, 979] [979]) (W9_9 a m (z 64) (z 96) (z 352) (z 704)) [OpFact .rem (S8 m) (z 3076) (z 2564)] := by show _ = _; kernel_rfl
theorem go_r8_5_2 (a m : Int) : rr (segR cx6 pB 1 (W8_5 a m (z 32) (z 160) (z 352) (z 576)) [(z 2052)] 0 [0, 1, 2, 348, 379, 384, 509, 513, 913] [913]) (W8_8 a m (z 64) (z 96) (z 352) (z 640)) [OpFact .rem (S8 m) (z 3076) (z 2052)] := by show _ = _; kernel_rfl
theorem go_r10_1_8 (a m : Int) : rr (segR cx6 pB 1 (W10_7 a m (z 224) (z 32) (z 352) (z 1088)) [(z 4)] 0 [0, 1, 2, 298, 329, 334, 499, 503, 761] [761]) (W10_8 a m (z 256) (z 32) (z 352) (z 1152)) [OpFact .rem (S8 m) (z 3076) (z 4)] := by show _ = _; kernel_rfl
theorem go_r12_2_3 (a m : Int) : rr (segR cx6 pB 1 (W12_4 a m (z 64) (z 64) (z 352) (z 896)) [(z 516)] 0 [0, 1, 2, 435, 458, 463, 694, 698, 1109] [1109]) (W12_6 a m (z 96) (z 64) (z 352) (z 960)) [OpFact .rem (S8 m) (z 3076) (z 516)] := by show _ = _; kernel_rfl
theorem go_r10_1_7 (a m : Int) : rr (segR cx6 pB 1 (W10_6 a m (z 192) (z 32) (z 352) (z 1024)) [(z 4)] 0 [0, 1, 2, 307, 334, 339, 514, 518, 779] [779]) (W10_7 a m (z 224) (z 32) (z 352) (z 1088)) [OpFact .rem (S8 m) (z 3076) (z 4)] := by show _ = _; kernel_rfl
theorem go_r8_1_6 (a m : Int) : rr (segR cx6 pB 1 (W8_5 a m (z 160) (z 32) (z 352) (z 832)) [(z 4)] 0 [0, 1, 2, 264, 287, 292, 433, 437, 661] [661]) (W8_6 a m (z 192) (z 32) (z 352) (z 896)) [OpFact .rem (S8 m) (z 3076) (z 4)] := by show _ = _; kernel_rfl
theorem go_r10_2_2 (a m : Int) : rr (segR cx6 pB 1 (W10_2 a m (z 32) (z 64) (z 352) (z 704)) [(z 516)] 0 [0, 1, 2, 393, 408, 413, 620, 624, 993] [993]) (W10_4 a m (z 64) (z 64) (z 352) (z 768)) [OpFact .rem (S8 m) (z 3076) (z 516)] := by show _ = _; kernel_rfl
theorem go_r6_2_3 (a m : Int) : rr (segR cx6 pB 1 (W6_4 a m (z 64) (z 64) (z 352) (z 512)) [(z 516)] 0 [0, 1, 2, 255, 278, 283, 382, 386, 653] [653]) (W6_6 a m (z 96) (z 64) (z 352) (z 576)) [OpFact .rem (S8 m) (z 3076) (z 516)] := by show _ = _; kernel_rfl
theorem go_r6_5_2 (a m : Int) : rr (segR cx6 pB 1 (W6_5 a m (z 32) (z 160) (z 352) (z 448)) [(z 2052)] 0 [0, 1, 2, 212, 235, 240, 337, 341, 525] [525]) (W6_6 a m (z 64) (z 32) (z 352) (z 512)) [OpFact .rem (S8 m) (z 3076) (z 2052)] := by show _ = _; kernel_rfl
theorem go_n12_1 (a m i c k s : Int) : rr (segR cx6 pB 1 (W12_12 a m (SI i) (SI k) (SI s) (SI c)) (qE i c (z 4)) 0 [0, 1, 2, 3, 4, 5, 410, 414, 416] [416]) (W12_12 a m (SI (i + 1)) (z 0) (z 320) (SI (c + 2))) (fE m i c (z 4)) := by show _ = _; kernel_rfl
theorem go_r8_1_3 (a m : Int) : rr (segR cx6 pB 1 (W8_2 a m (z 64) (z 32) (z 352) (z 640)) [(z 4)] 0 [0, 1, 2, 291, 302, 307, 478, 482, 715] [715]) (W8_3 a m (z 96) (z 32) (z 352) (z 704)) [OpFact .rem (S8 m) (z 3076) (z 4)] := by show _ = _; kernel_rfl
theorem go_r9_1_2 (a m : Int) : rr (segR cx6 pB 1 (W9_1 a m (z 32) (z 32) (z 352) (z 640)) [(z 4)] 0 [0, 1, 2, 326, 333, 338, 541, 545, 801] [801]) (W9_2 a m (z 64) (z 32) (z 352) (z 704)) [OpFact .rem (S8 m) (z 3076) (z 4)] := by show _ = _; kernel_rfl
theorem go_n10_4 (a m i c k s : Int) : rr (segR cx6 pB 1 (W10_10 a m (SI i) (SI k) (SI s) (SI c)) (qE i c (z 1540)) 0 [0, 1, 2, 3, 4, 5, 360, 364, 366] [366]) (W10_10 a m (SI (i + 1)) (z 0) (z 320) (SI (c + 2))) (fE m i c (z 1540)) := by show _ = _; kernel_rfl
theorem go_n8_6 (a m i c k s : Int) : rr (segR cx6 pB 1 (W8_8 a m (SI i) (SI k) (SI s) (SI c)) (qE i c (z 2564)) 0 [0, 1, 2, 3, 4, 5, 310, 314, 316] [316]) (W8_8 a m (SI (i + 1)) (z 0) (z 320) (SI (c + 2))) (fE m i c (z 2564)) := by show _ = _; kernel_rfl
theorem go_n8_1 (a m i c k s : Int) : rr (segR cx6 pB 1 (W8_8 a m (SI i) (SI k) (SI s) (SI c)) (qE i c (z 4)) 0 [0, 1, 2, 3, 4, 5, 310, 314, 316] [316]) (W8_8 a m (SI (i + 1)) (z 0) (z 320) (SI (c + 2))) (fE m i c (z 4)) := by show _ = _; kernel_rfl
theorem go_n7_2 (a m i c k s : Int) : rr (segR cx6 pB 1 (W7_7 a m (SI i) (SI k) (SI s) (SI c)) (qE i c (z 516)) 0 [0, 1, 2, 3, 4, 5, 285, 289, 291] [291]) (W7_7 a m (SI (i + 1)) (z 0) (z 320) (SI (c + 2))) (fE m i c (z 516)) := by show _ = _; kernel_rfl
theorem go_r1_1_1 (a m : Int) : rr (segR cx6 pB 1 (W1_0 a m (z 0) (z 14) (z 14) (z 64)) [(z 4)] 0 [0, 1, 2, 120, 123, 125, 162, 166, 257] [257]) (W1_1 a m (z 32) (z 32) (z 352) (z 128)) [OpFact .rem (S8 m) (z 3076) (z 4)] := by show _ = _; kernel_rfl
theorem go_r0_1_1 (a m : Int) : rr (segR cx6 pB 1 (W0_0 a m (z 0) (z 14) (z 14) (z 0)) [(z 4)] 0 [0, 1, 2, 3, 105, 109, 111] [111]) (W0_1 a m (z 32) (z 0) (z 320) (z 64)) [OpFact .rem (S8 m) (z 3076) (z 4)] := by show _ = _; kernel_rfl
theorem go_n0_2 (a m i c k s : Int) : rr (segR cx6 pB 1 (W0_1 a m (SI i) (SI k) (SI s) (SI c)) (qE i c (z 516)) 0 [0, 1, 2, 3, 106, 110, 112] [112]) (W0_1 a m (SI (i + 1)) (z 0) (z 320) (SI (c + 2))) (fE m i c (z 516)) := by show _ = _; kernel_rfl
theorem go_r0_6_1 (a m : Int) : rr (segR cx6 pB 1 (W0_0 a m (z 0) (z 14) (z 14) (z 0)) [(z 2564)] 0 [0, 1, 2, 3, 105, 109, 111] [111]) (W0_1 a m (z 32) (z 0) (z 320) (z 64)) [OpFact .rem (S8 m) (z 3076) (z 2564)] := by show _ = _; kernel_rfl
theorem go_e6 (a m : Int) : rr (seg cx6 (sL (sL (sR (sR (sR (sR fun6.sc)))))) (Pd6 a m) [] 0 [0, 1, 2, 3, 4, 5] []) (W6_0 a m (z 0) (z 14) (z 14) (z 384)) [] := by show _ = _; kernel_rfl
theorem go_t9 (a m k s : Int) : holdsR (segE cx6 fun6.res (sR (sR (sR (sR (sR fun6.sc))))) (X9 a m (SI 14) (SI k) (SI s)) [(z 4612)]) = allP [OpFact .rem (S8 a) (z 6660) (z 4612)] := by kernel_rfl
end Go.M
