/-
  SendFull gives back true at every input.
  The numbers are those of bytes.
-/
import Derived.Test.YtncnaejhbmnkbaaGreatGa30
import Derived.Test.YtncnaejhbmnkbaaGreatGa31
import Derived.Test.YtncnaejhbmnkbaaGreatGa32
import Derived.Test.YtncnaejhbmnkbaaGreatGr3a0
import Derived.Test.YtncnaejhbmnkbaaGreatGr3a1
import Derived.Test.YtncnaejhbmnkbaaGreatGr3b0
import Derived.Test.YtncnaejhbmnkbaaGreatGr3b1
import Derived.Test.YtncnaejhbmnkbaaGreatGr3c0
import Derived.Test.YtncnaejhbmnkbaaGreatGr3c1
import Derived.Test.YtncnaejhbmnkbaaGreatGr3d0
import Derived.Test.YtncnaejhbmnkbaaGreatGr3d1
import Derived.Test.YtncnaejhbmnkbaaGreatGr3e0
import Derived.Test.YtncnaejhbmnkbaaGreatGr3e1
import Derived.Test.YtncnaejhbmnkbaaGreatGr3f0
import Derived.Test.YtncnaejhbmnkbaaGreatGr3f1
import Derived.Test.YtncnaejhbmnkbaaGreatGr3g0
import Derived.Test.YtncnaejhbmnkbaaGreatGr3g1
import Derived.Test.YtncnaejhbmnkbaaGreatGr3h0
import Derived.Test.YtncnaejhbmnkbaaGreatGr3h1
import Derived.Test.YtncnaejhbmnkbaaGreatGr3i0
import Derived.Test.YtncnaejhbmnkbaaGreatGr3i1
import Derived.Test.YtncnaejhbmnkbaaGreatGr3j0
import Derived.Test.YtncnaejhbmnkbaaGreatGr3j1
import Derived.Test.YtncnaejhbmnkbaaGreatGr3k0
import Derived.Test.YtncnaejhbmnkbaaGreatGr3k1
import Derived.Test.YtncnaejhbmnkbaaGreatGr3l0
import Derived.Test.YtncnaejhbmnkbaaGreatGr3l1
set_option linter.unusedVariables false
set_option maxRecDepth 100000
namespace Go.M
open Go Go.Proofs
/-- From a state at the loop's head, round i: the loop is left after r rounds, and the rest gives true. -/
abbrev TT (a r : Int) (i : Nat) (S : Tst) : Prop := ∀ {nt : Nat} {cb cr : Code}, Kq nt cb cr → 0 ≤ a → a % 16 = r → (i : Int) ≤ r → r ≤ 15 → TR Tryz.prog cx3 nt cb S (Qx nt cr) (16 - i)
theorem tt {a r : Int} {i : Nat} {S S' X : Tst} {L D L2 D2 : List Nat} (hi : i < 16) (h1 : RS S [r8 r, M r, T_] 0 L D S' [flt i r T_, fc r, fr a r]) (h2 : RS S [r8 r, M r, F_] 2 L2 D2 X [flt i r F_, fc r, fr a r]) (h3 : RE X [] []) (nx : TT a r (i + 1) S') (hn : S'.n = L.length := by kernel_rfl) (hn2 : X.n = L2.length := by kernel_rfl) : TT a r i S := fun {nt cb cr} k ha hr hir hj => by
  rw [show 16 - i = 1 + (16 - (i + 1)) from by omega]
  by_cases h : r = i
  · exact tE k h2 ⟨lF i (by omega), fc_ok ha hr, fr_ok ha hr, trivial⟩ h3 trivial hn2
  · exact tN k h1 ⟨lT i (by omega), fc_ok ha hr, fr_ok ha hr, trivial⟩ (nx k ha hr (by omega) hj) hn
theorem tl {a r : Int} {S X : Tst} {L2 D2 : List Nat} (h2 : RS S [r8 r, M r, F_] 2 L2 D2 X [flt 15 r F_, fc r, fr a r]) (h3 : RE X [] []) (hn2 : X.n = L2.length := by kernel_rfl) : TT a r 15 S := fun {nt cb cr} k ha hr hir hj =>
  tE (n := 0) k h2 ⟨lF 15 (by omega), fc_ok ha hr, fr_ok ha hr, trivial⟩ h3 trivial hn2
section
theorem t00_15 (c d a r : Int) : TT a r 15 (V21 c d a) := tl (x00_15 c d a r) (e00_15 c d a r)
theorem t00_14 (c d a r : Int) : TT a r 14 (V20 c d a) := tt (by decide) (r00_14 c d a r) (x00_14 c d a r) (e00_14 c d a r) (t00_15 c d a r)
theorem t00_13 (c d a r : Int) : TT a r 13 (V19 c d a) := tt (by decide) (r00_13 c d a r) (x00_13 c d a r) (e00_13 c d a r) (t00_14 c d a r)
theorem t00_12 (c d a r : Int) : TT a r 12 (V18 c d a) := tt (by decide) (r00_12 c d a r) (x00_12 c d a r) (e00_12 c d a r) (t00_13 c d a r)
theorem t00_11 (c d a r : Int) : TT a r 11 (V17 c d a) := tt (by decide) (r00_11 c d a r) (x00_11 c d a r) (e00_11 c d a r) (t00_12 c d a r)
theorem t00_10 (c d a r : Int) : TT a r 10 (V16 c d a) := tt (by decide) (r00_10 c d a r) (x00_10 c d a r) (e00_10 c d a r) (t00_11 c d a r)
theorem t00_9 (c d a r : Int) : TT a r 9 (V15 c d a) := tt (by decide) (r00_9 c d a r) (x00_9 c d a r) (e00_9 c d a r) (t00_10 c d a r)
theorem t00_8 (c d a r : Int) : TT a r 8 (V14 c d a) := tt (by decide) (r00_8 c d a r) (x00_8 c d a r) (e00_8 c d a r) (t00_9 c d a r)
theorem t00_7 (c d a r : Int) : TT a r 7 (V13 c d a) := tt (by decide) (r00_7 c d a r) (x00_7 c d a r) (e00_7 c d a r) (t00_8 c d a r)
theorem t00_6 (c d a r : Int) : TT a r 6 (V12 c d a) := tt (by decide) (r00_6 c d a r) (x00_6 c d a r) (e00_6 c d a r) (t00_7 c d a r)
theorem t00_5 (c d a r : Int) : TT a r 5 (V11 c d a) := tt (by decide) (r00_5 c d a r) (x00_5 c d a r) (e00_5 c d a r) (t00_6 c d a r)
theorem t00_4 (c d a r : Int) : TT a r 4 (V10 c d a) := tt (by decide) (r00_4 c d a r) (x00_4 c d a r) (e00_4 c d a r) (t00_5 c d a r)
theorem t00_3 (c d a r : Int) : TT a r 3 (V9 c d a) := tt (by decide) (r00_3 c d a r) (x00_3 c d a r) (e00_3 c d a r) (t00_4 c d a r)
theorem t00_2 (c d a r : Int) : TT a r 2 (V8 c d a) := tt (by decide) (r00_2 c d a r) (x00_2 c d a r) (e00_2 c d a r) (t00_3 c d a r)
theorem t00_1 (c d a r : Int) : TT a r 1 (V7 c d a) := tt (by decide) (r00_1 c d a r) (x00_1 c d a r) (e00_1 c d a r) (t00_2 c d a r)
theorem t00_0 (c d a r : Int) : TT a r 0 (V6 c d a) := tt (by decide) (r00_0 c d a r) (x00_0 c d a r) (e00_0 c d a r) (t00_1 c d a r)
theorem t01_15 (c d a r : Int) : TT a r 15 (V57 c d a) := tl (x01_15 c d a r) (e01_15 c d a r)
theorem t01_14 (c d a r : Int) : TT a r 14 (V56 c d a) := tt (by decide) (r01_14 c d a r) (x01_14 c d a r) (e01_14 c d a r) (t01_15 c d a r)
theorem t01_13 (c d a r : Int) : TT a r 13 (V55 c d a) := tt (by decide) (r01_13 c d a r) (x01_13 c d a r) (e01_13 c d a r) (t01_14 c d a r)
theorem t01_12 (c d a r : Int) : TT a r 12 (V54 c d a) := tt (by decide) (r01_12 c d a r) (x01_12 c d a r) (e01_12 c d a r) (t01_13 c d a r)
theorem t01_11 (c d a r : Int) : TT a r 11 (V53 c d a) := tt (by decide) (r01_11 c d a r) (x01_11 c d a r) (e01_11 c d a r) (t01_12 c d a r)
theorem t01_10 (c d a r : Int) : TT a r 10 (V52 c d a) := tt (by decide) (r01_10 c d a r) (x01_10 c d a r) (e01_10 c d a r) (t01_11 c d a r)
theorem t01_9 (c d a r : Int) : TT a r 9 (V51 c d a) := tt (by decide) (r01_9 c d a r) (x01_9 c d a r) (e01_9 c d a r) (t01_10 c d a r)
theorem t01_8 (c d a r : Int) : TT a r 8 (V50 c d a) := tt (by decide) (r01_8 c d a r) (x01_8 c d a r) (e01_8 c d a r) (t01_9 c d a r)
theorem t01_7 (c d a r : Int) : TT a r 7 (V49 c d a) := tt (by decide) (r01_7 c d a r) (x01_7 c d a r) (e01_7 c d a r) (t01_8 c d a r)
theorem t01_6 (c d a r : Int) : TT a r 6 (V48 c d a) := tt (by decide) (r01_6 c d a r) (x01_6 c d a r) (e01_6 c d a r) (t01_7 c d a r)
theorem t01_5 (c d a r : Int) : TT a r 5 (V47 c d a) := tt (by decide) (r01_5 c d a r) (x01_5 c d a r) (e01_5 c d a r) (t01_6 c d a r)
theorem t01_4 (c d a r : Int) : TT a r 4 (V46 c d a) := tt (by decide) (r01_4 c d a r) (x01_4 c d a r) (e01_4 c d a r) (t01_5 c d a r)
theorem t01_3 (c d a r : Int) : TT a r 3 (V45 c d a) := tt (by decide) (r01_3 c d a r) (x01_3 c d a r) (e01_3 c d a r) (t01_4 c d a r)
theorem t01_2 (c d a r : Int) : TT a r 2 (V44 c d a) := tt (by decide) (r01_2 c d a r) (x01_2 c d a r) (e01_2 c d a r) (t01_3 c d a r)
theorem t01_1 (c d a r : Int) : TT a r 1 (V43 c d a) := tt (by decide) (r01_1 c d a r) (x01_1 c d a r) (e01_1 c d a r) (t01_2 c d a r)
theorem t01_0 (c d a r : Int) : TT a r 0 (V42 c d a) := tt (by decide) (r01_0 c d a r) (x01_0 c d a r) (e01_0 c d a r) (t01_1 c d a r)
theorem t02_15 (c d a r : Int) : TT a r 15 (V93 c d a) := tl (x02_15 c d a r) (e02_15 c d a r)
theorem t02_14 (c d a r : Int) : TT a r 14 (V92 c d a) := tt (by decide) (r02_14 c d a r) (x02_14 c d a r) (e02_14 c d a r) (t02_15 c d a r)
theorem t02_13 (c d a r : Int) : TT a r 13 (V91 c d a) := tt (by decide) (r02_13 c d a r) (x02_13 c d a r) (e02_13 c d a r) (t02_14 c d a r)
theorem t02_12 (c d a r : Int) : TT a r 12 (V90 c d a) := tt (by decide) (r02_12 c d a r) (x02_12 c d a r) (e02_12 c d a r) (t02_13 c d a r)
theorem t02_11 (c d a r : Int) : TT a r 11 (V89 c d a) := tt (by decide) (r02_11 c d a r) (x02_11 c d a r) (e02_11 c d a r) (t02_12 c d a r)
theorem t02_10 (c d a r : Int) : TT a r 10 (V88 c d a) := tt (by decide) (r02_10 c d a r) (x02_10 c d a r) (e02_10 c d a r) (t02_11 c d a r)
theorem t02_9 (c d a r : Int) : TT a r 9 (V87 c d a) := tt (by decide) (r02_9 c d a r) (x02_9 c d a r) (e02_9 c d a r) (t02_10 c d a r)
theorem t02_8 (c d a r : Int) : TT a r 8 (V86 c d a) := tt (by decide) (r02_8 c d a r) (x02_8 c d a r) (e02_8 c d a r) (t02_9 c d a r)
theorem t02_7 (c d a r : Int) : TT a r 7 (V85 c d a) := tt (by decide) (r02_7 c d a r) (x02_7 c d a r) (e02_7 c d a r) (t02_8 c d a r)
theorem t02_6 (c d a r : Int) : TT a r 6 (V84 c d a) := tt (by decide) (r02_6 c d a r) (x02_6 c d a r) (e02_6 c d a r) (t02_7 c d a r)
theorem t02_5 (c d a r : Int) : TT a r 5 (V83 c d a) := tt (by decide) (r02_5 c d a r) (x02_5 c d a r) (e02_5 c d a r) (t02_6 c d a r)
theorem t02_4 (c d a r : Int) : TT a r 4 (V82 c d a) := tt (by decide) (r02_4 c d a r) (x02_4 c d a r) (e02_4 c d a r) (t02_5 c d a r)
theorem t02_3 (c d a r : Int) : TT a r 3 (V81 c d a) := tt (by decide) (r02_3 c d a r) (x02_3 c d a r) (e02_3 c d a r) (t02_4 c d a r)
theorem t02_2 (c d a r : Int) : TT a r 2 (V80 c d a) := tt (by decide) (r02_2 c d a r) (x02_2 c d a r) (e02_2 c d a r) (t02_3 c d a r)
theorem t02_1 (c d a r : Int) : TT a r 1 (V79 c d a) := tt (by decide) (r02_1 c d a r) (x02_1 c d a r) (e02_1 c d a r) (t02_2 c d a r)
theorem t02_0 (c d a r : Int) : TT a r 0 (V78 c d a) := tt (by decide) (r02_0 c d a r) (x02_0 c d a r) (e02_0 c d a r) (t02_1 c d a r)
theorem t10_15 (c d a r : Int) : TT a r 15 (V129 c d a) := tl (x10_15 c d a r) (e10_15 c d a r)
theorem t10_14 (c d a r : Int) : TT a r 14 (V128 c d a) := tt (by decide) (r10_14 c d a r) (x10_14 c d a r) (e10_14 c d a r) (t10_15 c d a r)
theorem t10_13 (c d a r : Int) : TT a r 13 (V127 c d a) := tt (by decide) (r10_13 c d a r) (x10_13 c d a r) (e10_13 c d a r) (t10_14 c d a r)
theorem t10_12 (c d a r : Int) : TT a r 12 (V126 c d a) := tt (by decide) (r10_12 c d a r) (x10_12 c d a r) (e10_12 c d a r) (t10_13 c d a r)
theorem t10_11 (c d a r : Int) : TT a r 11 (V125 c d a) := tt (by decide) (r10_11 c d a r) (x10_11 c d a r) (e10_11 c d a r) (t10_12 c d a r)
theorem t10_10 (c d a r : Int) : TT a r 10 (V124 c d a) := tt (by decide) (r10_10 c d a r) (x10_10 c d a r) (e10_10 c d a r) (t10_11 c d a r)
theorem t10_9 (c d a r : Int) : TT a r 9 (V123 c d a) := tt (by decide) (r10_9 c d a r) (x10_9 c d a r) (e10_9 c d a r) (t10_10 c d a r)
theorem t10_8 (c d a r : Int) : TT a r 8 (V122 c d a) := tt (by decide) (r10_8 c d a r) (x10_8 c d a r) (e10_8 c d a r) (t10_9 c d a r)
theorem t10_7 (c d a r : Int) : TT a r 7 (V121 c d a) := tt (by decide) (r10_7 c d a r) (x10_7 c d a r) (e10_7 c d a r) (t10_8 c d a r)
theorem t10_6 (c d a r : Int) : TT a r 6 (V120 c d a) := tt (by decide) (r10_6 c d a r) (x10_6 c d a r) (e10_6 c d a r) (t10_7 c d a r)
theorem t10_5 (c d a r : Int) : TT a r 5 (V119 c d a) := tt (by decide) (r10_5 c d a r) (x10_5 c d a r) (e10_5 c d a r) (t10_6 c d a r)
theorem t10_4 (c d a r : Int) : TT a r 4 (V118 c d a) := tt (by decide) (r10_4 c d a r) (x10_4 c d a r) (e10_4 c d a r) (t10_5 c d a r)
theorem t10_3 (c d a r : Int) : TT a r 3 (V117 c d a) := tt (by decide) (r10_3 c d a r) (x10_3 c d a r) (e10_3 c d a r) (t10_4 c d a r)
theorem t10_2 (c d a r : Int) : TT a r 2 (V116 c d a) := tt (by decide) (r10_2 c d a r) (x10_2 c d a r) (e10_2 c d a r) (t10_3 c d a r)
theorem t10_1 (c d a r : Int) : TT a r 1 (V115 c d a) := tt (by decide) (r10_1 c d a r) (x10_1 c d a r) (e10_1 c d a r) (t10_2 c d a r)
theorem t10_0 (c d a r : Int) : TT a r 0 (V114 c d a) := tt (by decide) (r10_0 c d a r) (x10_0 c d a r) (e10_0 c d a r) (t10_1 c d a r)
theorem t11_15 (c d a r : Int) : TT a r 15 (V165 c d a) := tl (x11_15 c d a r) (e11_15 c d a r)
theorem t11_14 (c d a r : Int) : TT a r 14 (V164 c d a) := tt (by decide) (r11_14 c d a r) (x11_14 c d a r) (e11_14 c d a r) (t11_15 c d a r)
theorem t11_13 (c d a r : Int) : TT a r 13 (V163 c d a) := tt (by decide) (r11_13 c d a r) (x11_13 c d a r) (e11_13 c d a r) (t11_14 c d a r)
theorem t11_12 (c d a r : Int) : TT a r 12 (V162 c d a) := tt (by decide) (r11_12 c d a r) (x11_12 c d a r) (e11_12 c d a r) (t11_13 c d a r)
theorem t11_11 (c d a r : Int) : TT a r 11 (V161 c d a) := tt (by decide) (r11_11 c d a r) (x11_11 c d a r) (e11_11 c d a r) (t11_12 c d a r)
theorem t11_10 (c d a r : Int) : TT a r 10 (V160 c d a) := tt (by decide) (r11_10 c d a r) (x11_10 c d a r) (e11_10 c d a r) (t11_11 c d a r)
theorem t11_9 (c d a r : Int) : TT a r 9 (V159 c d a) := tt (by decide) (r11_9 c d a r) (x11_9 c d a r) (e11_9 c d a r) (t11_10 c d a r)
theorem t11_8 (c d a r : Int) : TT a r 8 (V158 c d a) := tt (by decide) (r11_8 c d a r) (x11_8 c d a r) (e11_8 c d a r) (t11_9 c d a r)
theorem t11_7 (c d a r : Int) : TT a r 7 (V157 c d a) := tt (by decide) (r11_7 c d a r) (x11_7 c d a r) (e11_7 c d a r) (t11_8 c d a r)
theorem t11_6 (c d a r : Int) : TT a r 6 (V156 c d a) := tt (by decide) (r11_6 c d a r) (x11_6 c d a r) (e11_6 c d a r) (t11_7 c d a r)
theorem t11_5 (c d a r : Int) : TT a r 5 (V155 c d a) := tt (by decide) (r11_5 c d a r) (x11_5 c d a r) (e11_5 c d a r) (t11_6 c d a r)
theorem t11_4 (c d a r : Int) : TT a r 4 (V154 c d a) := tt (by decide) (r11_4 c d a r) (x11_4 c d a r) (e11_4 c d a r) (t11_5 c d a r)
theorem t11_3 (c d a r : Int) : TT a r 3 (V153 c d a) := tt (by decide) (r11_3 c d a r) (x11_3 c d a r) (e11_3 c d a r) (t11_4 c d a r)
theorem t11_2 (c d a r : Int) : TT a r 2 (V152 c d a) := tt (by decide) (r11_2 c d a r) (x11_2 c d a r) (e11_2 c d a r) (t11_3 c d a r)
theorem t11_1 (c d a r : Int) : TT a r 1 (V151 c d a) := tt (by decide) (r11_1 c d a r) (x11_1 c d a r) (e11_1 c d a r) (t11_2 c d a r)
theorem t11_0 (c d a r : Int) : TT a r 0 (V150 c d a) := tt (by decide) (r11_0 c d a r) (x11_0 c d a r) (e11_0 c d a r) (t11_1 c d a r)
theorem t12_15 (c d a r : Int) : TT a r 15 (V201 c d a) := tl (x12_15 c d a r) (e12_15 c d a r)
theorem t12_14 (c d a r : Int) : TT a r 14 (V200 c d a) := tt (by decide) (r12_14 c d a r) (x12_14 c d a r) (e12_14 c d a r) (t12_15 c d a r)
theorem t12_13 (c d a r : Int) : TT a r 13 (V199 c d a) := tt (by decide) (r12_13 c d a r) (x12_13 c d a r) (e12_13 c d a r) (t12_14 c d a r)
theorem t12_12 (c d a r : Int) : TT a r 12 (V198 c d a) := tt (by decide) (r12_12 c d a r) (x12_12 c d a r) (e12_12 c d a r) (t12_13 c d a r)
theorem t12_11 (c d a r : Int) : TT a r 11 (V197 c d a) := tt (by decide) (r12_11 c d a r) (x12_11 c d a r) (e12_11 c d a r) (t12_12 c d a r)
theorem t12_10 (c d a r : Int) : TT a r 10 (V196 c d a) := tt (by decide) (r12_10 c d a r) (x12_10 c d a r) (e12_10 c d a r) (t12_11 c d a r)
theorem t12_9 (c d a r : Int) : TT a r 9 (V195 c d a) := tt (by decide) (r12_9 c d a r) (x12_9 c d a r) (e12_9 c d a r) (t12_10 c d a r)
theorem t12_8 (c d a r : Int) : TT a r 8 (V194 c d a) := tt (by decide) (r12_8 c d a r) (x12_8 c d a r) (e12_8 c d a r) (t12_9 c d a r)
theorem t12_7 (c d a r : Int) : TT a r 7 (V193 c d a) := tt (by decide) (r12_7 c d a r) (x12_7 c d a r) (e12_7 c d a r) (t12_8 c d a r)
theorem t12_6 (c d a r : Int) : TT a r 6 (V192 c d a) := tt (by decide) (r12_6 c d a r) (x12_6 c d a r) (e12_6 c d a r) (t12_7 c d a r)
theorem t12_5 (c d a r : Int) : TT a r 5 (V191 c d a) := tt (by decide) (r12_5 c d a r) (x12_5 c d a r) (e12_5 c d a r) (t12_6 c d a r)
theorem t12_4 (c d a r : Int) : TT a r 4 (V190 c d a) := tt (by decide) (r12_4 c d a r) (x12_4 c d a r) (e12_4 c d a r) (t12_5 c d a r)
theorem t12_3 (c d a r : Int) : TT a r 3 (V189 c d a) := tt (by decide) (r12_3 c d a r) (x12_3 c d a r) (e12_3 c d a r) (t12_4 c d a r)
theorem t12_2 (c d a r : Int) : TT a r 2 (V188 c d a) := tt (by decide) (r12_2 c d a r) (x12_2 c d a r) (e12_2 c d a r) (t12_3 c d a r)
theorem t12_1 (c d a r : Int) : TT a r 1 (V187 c d a) := tt (by decide) (r12_1 c d a r) (x12_1 c d a r) (e12_1 c d a r) (t12_2 c d a r)
theorem t12_0 (c d a r : Int) : TT a r 0 (V186 c d a) := tt (by decide) (r12_0 c d a r) (x12_0 c d a r) (e12_0 c d a r) (t12_1 c d a r)
theorem t20_15 (c d a r : Int) : TT a r 15 (V237 c d a) := tl (x20_15 c d a r) (e20_15 c d a r)
theorem t20_14 (c d a r : Int) : TT a r 14 (V236 c d a) := tt (by decide) (r20_14 c d a r) (x20_14 c d a r) (e20_14 c d a r) (t20_15 c d a r)
theorem t20_13 (c d a r : Int) : TT a r 13 (V235 c d a) := tt (by decide) (r20_13 c d a r) (x20_13 c d a r) (e20_13 c d a r) (t20_14 c d a r)
theorem t20_12 (c d a r : Int) : TT a r 12 (V234 c d a) := tt (by decide) (r20_12 c d a r) (x20_12 c d a r) (e20_12 c d a r) (t20_13 c d a r)
theorem t20_11 (c d a r : Int) : TT a r 11 (V233 c d a) := tt (by decide) (r20_11 c d a r) (x20_11 c d a r) (e20_11 c d a r) (t20_12 c d a r)
theorem t20_10 (c d a r : Int) : TT a r 10 (V232 c d a) := tt (by decide) (r20_10 c d a r) (x20_10 c d a r) (e20_10 c d a r) (t20_11 c d a r)
theorem t20_9 (c d a r : Int) : TT a r 9 (V231 c d a) := tt (by decide) (r20_9 c d a r) (x20_9 c d a r) (e20_9 c d a r) (t20_10 c d a r)
theorem t20_8 (c d a r : Int) : TT a r 8 (V230 c d a) := tt (by decide) (r20_8 c d a r) (x20_8 c d a r) (e20_8 c d a r) (t20_9 c d a r)
theorem t20_7 (c d a r : Int) : TT a r 7 (V229 c d a) := tt (by decide) (r20_7 c d a r) (x20_7 c d a r) (e20_7 c d a r) (t20_8 c d a r)
theorem t20_6 (c d a r : Int) : TT a r 6 (V228 c d a) := tt (by decide) (r20_6 c d a r) (x20_6 c d a r) (e20_6 c d a r) (t20_7 c d a r)
theorem t20_5 (c d a r : Int) : TT a r 5 (V227 c d a) := tt (by decide) (r20_5 c d a r) (x20_5 c d a r) (e20_5 c d a r) (t20_6 c d a r)
theorem t20_4 (c d a r : Int) : TT a r 4 (V226 c d a) := tt (by decide) (r20_4 c d a r) (x20_4 c d a r) (e20_4 c d a r) (t20_5 c d a r)
theorem t20_3 (c d a r : Int) : TT a r 3 (V225 c d a) := tt (by decide) (r20_3 c d a r) (x20_3 c d a r) (e20_3 c d a r) (t20_4 c d a r)
theorem t20_2 (c d a r : Int) : TT a r 2 (V224 c d a) := tt (by decide) (r20_2 c d a r) (x20_2 c d a r) (e20_2 c d a r) (t20_3 c d a r)
theorem t20_1 (c d a r : Int) : TT a r 1 (V223 c d a) := tt (by decide) (r20_1 c d a r) (x20_1 c d a r) (e20_1 c d a r) (t20_2 c d a r)
theorem t20_0 (c d a r : Int) : TT a r 0 (V222 c d a) := tt (by decide) (r20_0 c d a r) (x20_0 c d a r) (e20_0 c d a r) (t20_1 c d a r)
theorem t21_15 (c d a r : Int) : TT a r 15 (V273 c d a) := tl (x21_15 c d a r) (e21_15 c d a r)
theorem t21_14 (c d a r : Int) : TT a r 14 (V272 c d a) := tt (by decide) (r21_14 c d a r) (x21_14 c d a r) (e21_14 c d a r) (t21_15 c d a r)
theorem t21_13 (c d a r : Int) : TT a r 13 (V271 c d a) := tt (by decide) (r21_13 c d a r) (x21_13 c d a r) (e21_13 c d a r) (t21_14 c d a r)
theorem t21_12 (c d a r : Int) : TT a r 12 (V270 c d a) := tt (by decide) (r21_12 c d a r) (x21_12 c d a r) (e21_12 c d a r) (t21_13 c d a r)
theorem t21_11 (c d a r : Int) : TT a r 11 (V269 c d a) := tt (by decide) (r21_11 c d a r) (x21_11 c d a r) (e21_11 c d a r) (t21_12 c d a r)
theorem t21_10 (c d a r : Int) : TT a r 10 (V268 c d a) := tt (by decide) (r21_10 c d a r) (x21_10 c d a r) (e21_10 c d a r) (t21_11 c d a r)
theorem t21_9 (c d a r : Int) : TT a r 9 (V267 c d a) := tt (by decide) (r21_9 c d a r) (x21_9 c d a r) (e21_9 c d a r) (t21_10 c d a r)
theorem t21_8 (c d a r : Int) : TT a r 8 (V266 c d a) := tt (by decide) (r21_8 c d a r) (x21_8 c d a r) (e21_8 c d a r) (t21_9 c d a r)
theorem t21_7 (c d a r : Int) : TT a r 7 (V265 c d a) := tt (by decide) (r21_7 c d a r) (x21_7 c d a r) (e21_7 c d a r) (t21_8 c d a r)
theorem t21_6 (c d a r : Int) : TT a r 6 (V264 c d a) := tt (by decide) (r21_6 c d a r) (x21_6 c d a r) (e21_6 c d a r) (t21_7 c d a r)
theorem t21_5 (c d a r : Int) : TT a r 5 (V263 c d a) := tt (by decide) (r21_5 c d a r) (x21_5 c d a r) (e21_5 c d a r) (t21_6 c d a r)
theorem t21_4 (c d a r : Int) : TT a r 4 (V262 c d a) := tt (by decide) (r21_4 c d a r) (x21_4 c d a r) (e21_4 c d a r) (t21_5 c d a r)
theorem t21_3 (c d a r : Int) : TT a r 3 (V261 c d a) := tt (by decide) (r21_3 c d a r) (x21_3 c d a r) (e21_3 c d a r) (t21_4 c d a r)
theorem t21_2 (c d a r : Int) : TT a r 2 (V260 c d a) := tt (by decide) (r21_2 c d a r) (x21_2 c d a r) (e21_2 c d a r) (t21_3 c d a r)
theorem t21_1 (c d a r : Int) : TT a r 1 (V259 c d a) := tt (by decide) (r21_1 c d a r) (x21_1 c d a r) (e21_1 c d a r) (t21_2 c d a r)
theorem t21_0 (c d a r : Int) : TT a r 0 (V258 c d a) := tt (by decide) (r21_0 c d a r) (x21_0 c d a r) (e21_0 c d a r) (t21_1 c d a r)
theorem t22_15 (c d a r : Int) : TT a r 15 (V309 c d a) := tl (x22_15 c d a r) (e22_15 c d a r)
theorem t22_14 (c d a r : Int) : TT a r 14 (V308 c d a) := tt (by decide) (r22_14 c d a r) (x22_14 c d a r) (e22_14 c d a r) (t22_15 c d a r)
theorem t22_13 (c d a r : Int) : TT a r 13 (V307 c d a) := tt (by decide) (r22_13 c d a r) (x22_13 c d a r) (e22_13 c d a r) (t22_14 c d a r)
theorem t22_12 (c d a r : Int) : TT a r 12 (V306 c d a) := tt (by decide) (r22_12 c d a r) (x22_12 c d a r) (e22_12 c d a r) (t22_13 c d a r)
theorem t22_11 (c d a r : Int) : TT a r 11 (V305 c d a) := tt (by decide) (r22_11 c d a r) (x22_11 c d a r) (e22_11 c d a r) (t22_12 c d a r)
theorem t22_10 (c d a r : Int) : TT a r 10 (V304 c d a) := tt (by decide) (r22_10 c d a r) (x22_10 c d a r) (e22_10 c d a r) (t22_11 c d a r)
theorem t22_9 (c d a r : Int) : TT a r 9 (V303 c d a) := tt (by decide) (r22_9 c d a r) (x22_9 c d a r) (e22_9 c d a r) (t22_10 c d a r)
theorem t22_8 (c d a r : Int) : TT a r 8 (V302 c d a) := tt (by decide) (r22_8 c d a r) (x22_8 c d a r) (e22_8 c d a r) (t22_9 c d a r)
theorem t22_7 (c d a r : Int) : TT a r 7 (V301 c d a) := tt (by decide) (r22_7 c d a r) (x22_7 c d a r) (e22_7 c d a r) (t22_8 c d a r)
theorem t22_6 (c d a r : Int) : TT a r 6 (V300 c d a) := tt (by decide) (r22_6 c d a r) (x22_6 c d a r) (e22_6 c d a r) (t22_7 c d a r)
theorem t22_5 (c d a r : Int) : TT a r 5 (V299 c d a) := tt (by decide) (r22_5 c d a r) (x22_5 c d a r) (e22_5 c d a r) (t22_6 c d a r)
theorem t22_4 (c d a r : Int) : TT a r 4 (V298 c d a) := tt (by decide) (r22_4 c d a r) (x22_4 c d a r) (e22_4 c d a r) (t22_5 c d a r)
theorem t22_3 (c d a r : Int) : TT a r 3 (V297 c d a) := tt (by decide) (r22_3 c d a r) (x22_3 c d a r) (e22_3 c d a r) (t22_4 c d a r)
theorem t22_2 (c d a r : Int) : TT a r 2 (V296 c d a) := tt (by decide) (r22_2 c d a r) (x22_2 c d a r) (e22_2 c d a r) (t22_3 c d a r)
theorem t22_1 (c d a r : Int) : TT a r 1 (V295 c d a) := tt (by decide) (r22_1 c d a r) (x22_1 c d a r) (e22_1 c d a r) (t22_2 c d a r)
theorem t22_0 (c d a r : Int) : TT a r 0 (V294 c d a) := tt (by decide) (r22_0 c d a r) (x22_0 c d a r) (e22_0 c d a r) (t22_1 c d a r)
theorem t30_15 (c d a r : Int) : TT a r 15 (V345 c d a) := tl (x30_15 c d a r) (e30_15 c d a r)
theorem t30_14 (c d a r : Int) : TT a r 14 (V344 c d a) := tt (by decide) (r30_14 c d a r) (x30_14 c d a r) (e30_14 c d a r) (t30_15 c d a r)
theorem t30_13 (c d a r : Int) : TT a r 13 (V343 c d a) := tt (by decide) (r30_13 c d a r) (x30_13 c d a r) (e30_13 c d a r) (t30_14 c d a r)
theorem t30_12 (c d a r : Int) : TT a r 12 (V342 c d a) := tt (by decide) (r30_12 c d a r) (x30_12 c d a r) (e30_12 c d a r) (t30_13 c d a r)
theorem t30_11 (c d a r : Int) : TT a r 11 (V341 c d a) := tt (by decide) (r30_11 c d a r) (x30_11 c d a r) (e30_11 c d a r) (t30_12 c d a r)
theorem t30_10 (c d a r : Int) : TT a r 10 (V340 c d a) := tt (by decide) (r30_10 c d a r) (x30_10 c d a r) (e30_10 c d a r) (t30_11 c d a r)
theorem t30_9 (c d a r : Int) : TT a r 9 (V339 c d a) := tt (by decide) (r30_9 c d a r) (x30_9 c d a r) (e30_9 c d a r) (t30_10 c d a r)
theorem t30_8 (c d a r : Int) : TT a r 8 (V338 c d a) := tt (by decide) (r30_8 c d a r) (x30_8 c d a r) (e30_8 c d a r) (t30_9 c d a r)
theorem t30_7 (c d a r : Int) : TT a r 7 (V337 c d a) := tt (by decide) (r30_7 c d a r) (x30_7 c d a r) (e30_7 c d a r) (t30_8 c d a r)
theorem t30_6 (c d a r : Int) : TT a r 6 (V336 c d a) := tt (by decide) (r30_6 c d a r) (x30_6 c d a r) (e30_6 c d a r) (t30_7 c d a r)
theorem t30_5 (c d a r : Int) : TT a r 5 (V335 c d a) := tt (by decide) (r30_5 c d a r) (x30_5 c d a r) (e30_5 c d a r) (t30_6 c d a r)
theorem t30_4 (c d a r : Int) : TT a r 4 (V334 c d a) := tt (by decide) (r30_4 c d a r) (x30_4 c d a r) (e30_4 c d a r) (t30_5 c d a r)
theorem t30_3 (c d a r : Int) : TT a r 3 (V333 c d a) := tt (by decide) (r30_3 c d a r) (x30_3 c d a r) (e30_3 c d a r) (t30_4 c d a r)
theorem t30_2 (c d a r : Int) : TT a r 2 (V332 c d a) := tt (by decide) (r30_2 c d a r) (x30_2 c d a r) (e30_2 c d a r) (t30_3 c d a r)
theorem t30_1 (c d a r : Int) : TT a r 1 (V331 c d a) := tt (by decide) (r30_1 c d a r) (x30_1 c d a r) (e30_1 c d a r) (t30_2 c d a r)
theorem t30_0 (c d a r : Int) : TT a r 0 (V330 c d a) := tt (by decide) (r30_0 c d a r) (x30_0 c d a r) (e30_0 c d a r) (t30_1 c d a r)
theorem t31_15 (c d a r : Int) : TT a r 15 (V381 c d a) := tl (x31_15 c d a r) (e31_15 c d a r)
theorem t31_14 (c d a r : Int) : TT a r 14 (V380 c d a) := tt (by decide) (r31_14 c d a r) (x31_14 c d a r) (e31_14 c d a r) (t31_15 c d a r)
theorem t31_13 (c d a r : Int) : TT a r 13 (V379 c d a) := tt (by decide) (r31_13 c d a r) (x31_13 c d a r) (e31_13 c d a r) (t31_14 c d a r)
theorem t31_12 (c d a r : Int) : TT a r 12 (V378 c d a) := tt (by decide) (r31_12 c d a r) (x31_12 c d a r) (e31_12 c d a r) (t31_13 c d a r)
theorem t31_11 (c d a r : Int) : TT a r 11 (V377 c d a) := tt (by decide) (r31_11 c d a r) (x31_11 c d a r) (e31_11 c d a r) (t31_12 c d a r)
theorem t31_10 (c d a r : Int) : TT a r 10 (V376 c d a) := tt (by decide) (r31_10 c d a r) (x31_10 c d a r) (e31_10 c d a r) (t31_11 c d a r)
theorem t31_9 (c d a r : Int) : TT a r 9 (V375 c d a) := tt (by decide) (r31_9 c d a r) (x31_9 c d a r) (e31_9 c d a r) (t31_10 c d a r)
theorem t31_8 (c d a r : Int) : TT a r 8 (V374 c d a) := tt (by decide) (r31_8 c d a r) (x31_8 c d a r) (e31_8 c d a r) (t31_9 c d a r)
theorem t31_7 (c d a r : Int) : TT a r 7 (V373 c d a) := tt (by decide) (r31_7 c d a r) (x31_7 c d a r) (e31_7 c d a r) (t31_8 c d a r)
theorem t31_6 (c d a r : Int) : TT a r 6 (V372 c d a) := tt (by decide) (r31_6 c d a r) (x31_6 c d a r) (e31_6 c d a r) (t31_7 c d a r)
theorem t31_5 (c d a r : Int) : TT a r 5 (V371 c d a) := tt (by decide) (r31_5 c d a r) (x31_5 c d a r) (e31_5 c d a r) (t31_6 c d a r)
theorem t31_4 (c d a r : Int) : TT a r 4 (V370 c d a) := tt (by decide) (r31_4 c d a r) (x31_4 c d a r) (e31_4 c d a r) (t31_5 c d a r)
theorem t31_3 (c d a r : Int) : TT a r 3 (V369 c d a) := tt (by decide) (r31_3 c d a r) (x31_3 c d a r) (e31_3 c d a r) (t31_4 c d a r)
theorem t31_2 (c d a r : Int) : TT a r 2 (V368 c d a) := tt (by decide) (r31_2 c d a r) (x31_2 c d a r) (e31_2 c d a r) (t31_3 c d a r)
theorem t31_1 (c d a r : Int) : TT a r 1 (V367 c d a) := tt (by decide) (r31_1 c d a r) (x31_1 c d a r) (e31_1 c d a r) (t31_2 c d a r)
theorem t31_0 (c d a r : Int) : TT a r 0 (V366 c d a) := tt (by decide) (r31_0 c d a r) (x31_0 c d a r) (e31_0 c d a r) (t31_1 c d a r)
theorem t32_15 (c d a r : Int) : TT a r 15 (V417 c d a) := tl (x32_15 c d a r) (e32_15 c d a r)
theorem t32_14 (c d a r : Int) : TT a r 14 (V416 c d a) := tt (by decide) (r32_14 c d a r) (x32_14 c d a r) (e32_14 c d a r) (t32_15 c d a r)
theorem t32_13 (c d a r : Int) : TT a r 13 (V415 c d a) := tt (by decide) (r32_13 c d a r) (x32_13 c d a r) (e32_13 c d a r) (t32_14 c d a r)
theorem t32_12 (c d a r : Int) : TT a r 12 (V414 c d a) := tt (by decide) (r32_12 c d a r) (x32_12 c d a r) (e32_12 c d a r) (t32_13 c d a r)
theorem t32_11 (c d a r : Int) : TT a r 11 (V413 c d a) := tt (by decide) (r32_11 c d a r) (x32_11 c d a r) (e32_11 c d a r) (t32_12 c d a r)
theorem t32_10 (c d a r : Int) : TT a r 10 (V412 c d a) := tt (by decide) (r32_10 c d a r) (x32_10 c d a r) (e32_10 c d a r) (t32_11 c d a r)
theorem t32_9 (c d a r : Int) : TT a r 9 (V411 c d a) := tt (by decide) (r32_9 c d a r) (x32_9 c d a r) (e32_9 c d a r) (t32_10 c d a r)
theorem t32_8 (c d a r : Int) : TT a r 8 (V410 c d a) := tt (by decide) (r32_8 c d a r) (x32_8 c d a r) (e32_8 c d a r) (t32_9 c d a r)
theorem t32_7 (c d a r : Int) : TT a r 7 (V409 c d a) := tt (by decide) (r32_7 c d a r) (x32_7 c d a r) (e32_7 c d a r) (t32_8 c d a r)
theorem t32_6 (c d a r : Int) : TT a r 6 (V408 c d a) := tt (by decide) (r32_6 c d a r) (x32_6 c d a r) (e32_6 c d a r) (t32_7 c d a r)
theorem t32_5 (c d a r : Int) : TT a r 5 (V407 c d a) := tt (by decide) (r32_5 c d a r) (x32_5 c d a r) (e32_5 c d a r) (t32_6 c d a r)
theorem t32_4 (c d a r : Int) : TT a r 4 (V406 c d a) := tt (by decide) (r32_4 c d a r) (x32_4 c d a r) (e32_4 c d a r) (t32_5 c d a r)
theorem t32_3 (c d a r : Int) : TT a r 3 (V405 c d a) := tt (by decide) (r32_3 c d a r) (x32_3 c d a r) (e32_3 c d a r) (t32_4 c d a r)
theorem t32_2 (c d a r : Int) : TT a r 2 (V404 c d a) := tt (by decide) (r32_2 c d a r) (x32_2 c d a r) (e32_2 c d a r) (t32_3 c d a r)
theorem t32_1 (c d a r : Int) : TT a r 1 (V403 c d a) := tt (by decide) (r32_1 c d a r) (x32_1 c d a r) (e32_1 c d a r) (t32_2 c d a r)
theorem t32_0 (c d a r : Int) : TT a r 0 (V402 c d a) := tt (by decide) (r32_0 c d a r) (x32_0 c d a r) (e32_0 c d a r) (t32_1 c d a r)
end
theorem fn3 (c d a : Int) (hc : 0 ≤ c) (hc1 : c < 256) (hd : 0 ≤ d) (hd1 : d < 256) (ha : 0 ≤ a) (ha1 : a < 256) (w : World) : Calls Tryz.prog 3 #[.int .u8 c, .int .u8 d, .int .u8 a] w fun e w' => e = .returned (.bool true) ∧ Go.RowKit.Below w.heap.size w w' := by
  have hcs : den Vz ⟨13, [], .int .u8 c⟩ (.int .u8 c) := (den12 (x := ⟨13, [], .int .u8 c⟩) (.inr rfl)).2 ⟨rfl, rfl⟩
  have hds : den Vz ⟨13, [], .int .u8 d⟩ (.int .u8 d) := (den12 (x := ⟨13, [], .int .u8 d⟩) (.inr rfl)).2 ⟨rfl, rfl⟩
  have has : den Vz ⟨13, [], .int .u8 a⟩ (.int .u8 a) := (den12 (x := ⟨13, [], .int .u8 a⟩) (.inr rfl)).2 ⟨rfl, rfl⟩
  have hv : denL Vz [⟨13, [], .int .u8 c⟩, ⟨13, [], .int .u8 d⟩, ⟨13, [], .int .u8 a⟩] #[Value.int .u8 c, .int .u8 d, .int .u8 a].toList := denL_cons.2 ⟨_, _, rfl, hcs, denL_cons.2 ⟨_, _, rfl, hds, denL_cons.2 ⟨_, [], rfl, has, denL_nil.2 rfl⟩⟩⟩
  obtain ⟨r, hr⟩ : ∃ r, a % 16 = r := ⟨_, rfl⟩
  have hE0 : okF fun3 = true := by kernel_rfl
  have e0 : fun3.sc = .seq (sL fun3.sc) (sR fun3.sc) := by kernel_rfl
  have e1 : (sR fun3.sc) = .seq (sL (sR fun3.sc)) (sR (sR fun3.sc)) := by kernel_rfl
  have e2 : (sR (sR fun3.sc)) = .seq (sL (sR (sR fun3.sc))) (sR (sR (sR fun3.sc))) := by kernel_rfl
  have e3 : (sR (sR (sR fun3.sc))) = .seq (sL (sR (sR (sR fun3.sc)))) (sR (sR (sR (sR fun3.sc)))) := by kernel_rfl
  have e4 : (sR (sR (sR (sR fun3.sc)))) = .seq (sL (sR (sR (sR (sR fun3.sc))))) (sR (sR (sR (sR (sR fun3.sc))))) := by kernel_rfl
  have e5 : (sR (sR (sR (sR (sR fun3.sc))))) = .seq (sL (sR (sR (sR (sR (sR fun3.sc)))))) (sR (sR (sR (sR (sR (sR fun3.sc)))))) := by kernel_rfl
  have eL : (sL (sR (sR (sR (sR (sR fun3.sc)))))) = .seq (sL (sL (sR (sR (sR (sR (sR fun3.sc))))))) (sR (sL (sR (sR (sR (sR (sR fun3.sc))))))) := by kernel_rfl
  have eB : (sR (sL (sR (sR (sR (sR (sR fun3.sc))))))) = .block 0 (sB (sR (sL (sR (sR (sR (sR (sR fun3.sc)))))))) := by kernel_rfl
  have eC : (sB (sR (sL (sR (sR (sR (sR (sR fun3.sc)))))))) = .loop (sB (sB (sR (sL (sR (sR (sR (sR (sR fun3.sc))))))))) := by kernel_rfl
  refine law_TE cl7_ok ok3 hE0 (xs := [⟨13, [], .int .u8 c⟩, ⟨13, [], .int .u8 d⟩, ⟨13, [], .int .u8 a⟩]) rfl (fun c0 nt hp hm hG => ?_) hv w trivial
  obtain ⟨c1, d1, rfl, p0, q0⟩ := hp.sq e0
  obtain ⟨c2, d2, rfl, p1, q1⟩ := q0.sq e1
  obtain ⟨c3, d3, rfl, p2, q2⟩ := q1.sq e2
  obtain ⟨c4, d4, rfl, p3, q3⟩ := q2.sq e3
  obtain ⟨c5, d5, rfl, p4, q4⟩ := q3.sq e4
  obtain ⟨c6, d6, rfl, p5, q5⟩ := q4.sq e5
  obtain ⟨cL, dL, rfl, pL, qL⟩ := p5.sq eL
  obtain ⟨cB, rfl, pB⟩ := qL.bk eB
  obtain ⟨cC, rfl, pC⟩ := pB.lp eC
  have k : Kq nt cC d6 := ⟨hm, hG, pC, q5⟩
  have h12 : (c % 4 = 0 ∧ d % 3 = 0) ∨ (c % 4 = 0 ∧ d % 3 = 1) ∨ (c % 4 = 0 ∧ d % 3 = 2) ∨ (c % 4 = 1 ∧ d % 3 = 0) ∨ (c % 4 = 1 ∧ d % 3 = 1) ∨ (c % 4 = 1 ∧ d % 3 = 2) ∨ (c % 4 = 2 ∧ d % 3 = 0) ∨ (c % 4 = 2 ∧ d % 3 = 1) ∨ (c % 4 = 2 ∧ d % 3 = 2) ∨ (c % 4 = 3 ∧ d % 3 = 0) ∨ (c % 4 = 3 ∧ d % 3 = 1) ∨ (c % 4 = 3 ∧ d % 3 = 2) := by omega
  rcases h12 with ⟨hv1, hv2⟩ | ⟨hv1, hv2⟩ | ⟨hv1, hv2⟩ | ⟨hv1, hv2⟩ | ⟨hv1, hv2⟩ | ⟨hv1, hv2⟩ | ⟨hv1, hv2⟩ | ⟨hv1, hv2⟩ | ⟨hv1, hv2⟩ | ⟨hv1, hv2⟩ | ⟨hv1, hv2⟩ | ⟨hv1, hv2⟩
  · exact TE_then (sg cl7_ok hm hG p0 (by kernel_rfl) (mpr (gP00_0 c d a r) (doneL trivial))) (TE_then (sg cl7_ok hm hG p1 (by kernel_rfl) (mpr (gP00_1 c d a r) (doneL ⟨(f_rem 3 1540 u3 (by decide) hd (by exact hv2) (dN8 (m := 0) rfl)), (f_rem 4 2052 u4 (by decide) hc (by exact hv1) (dN8 (m := 0) rfl)), trivial⟩))) (TE_then (sg cl7_ok hm hG p2 (by kernel_rfl) (mpr (gP00_2 c d a r) (doneL trivial))) (TE_then (sg cl7_ok hm hG p3 (by kernel_rfl) (mpr (gP00_3 c d a r) (doneL trivial))) (TE_then (sg cl7_ok hm hG p4 (by kernel_rfl) (mpr (gP00_4 c d a r) (doneL trivial))) (tAB (sg cl7_ok hm hG pL (by kernel_rfl) (mpr (gP00_5 c d a r) (doneL trivial))) (t00_0 c d a r k ha hr (by omega) (by omega)) rfl)))))
  · exact TE_then (sg cl7_ok hm hG p0 (by kernel_rfl) (mpr (gP00_0 c d a r) (doneL trivial))) (TE_then (sg cl7_ok hm hG p1 (by kernel_rfl) (mpr (gP01_1 c d a r) (doneL ⟨(f_rem 3 1540 u3 (by decide) hd (by exact hv2) (dN8 (m := 1) rfl)), (f_rem 4 2052 u4 (by decide) hc (by exact hv1) (dN8 (m := 0) rfl)), trivial⟩))) (TE_then (sg cl7_ok hm hG p2 (by kernel_rfl) (mpr (gP01_2 c d a r) (doneL trivial))) (TE_then (sg cl7_ok hm hG p3 (by kernel_rfl) (mpr (gP01_3 c d a r) (doneL trivial))) (TE_then (sg cl7_ok hm hG p4 (by kernel_rfl) (mpr (gP01_4 c d a r) (doneL trivial))) (tAB (sg cl7_ok hm hG pL (by kernel_rfl) (mpr (gP01_5 c d a r) (doneL trivial))) (t01_0 c d a r k ha hr (by omega) (by omega)) rfl)))))
  · exact TE_then (sg cl7_ok hm hG p0 (by kernel_rfl) (mpr (gP00_0 c d a r) (doneL trivial))) (TE_then (sg cl7_ok hm hG p1 (by kernel_rfl) (mpr (gP02_1 c d a r) (doneL ⟨(f_rem 3 1540 u3 (by decide) hd (by exact hv2) (dN8 (m := 2) rfl)), (f_rem 4 2052 u4 (by decide) hc (by exact hv1) (dN8 (m := 0) rfl)), trivial⟩))) (TE_then (sg cl7_ok hm hG p2 (by kernel_rfl) (mpr (gP02_2 c d a r) (doneL trivial))) (TE_then (sg cl7_ok hm hG p3 (by kernel_rfl) (mpr (gP02_3 c d a r) (doneL trivial))) (TE_then (sg cl7_ok hm hG p4 (by kernel_rfl) (mpr (gP02_4 c d a r) (doneL trivial))) (tAB (sg cl7_ok hm hG pL (by kernel_rfl) (mpr (gP02_5 c d a r) (doneL trivial))) (t02_0 c d a r k ha hr (by omega) (by omega)) rfl)))))
  · exact TE_then (sg cl7_ok hm hG p0 (by kernel_rfl) (mpr (gP00_0 c d a r) (doneL trivial))) (TE_then (sg cl7_ok hm hG p1 (by kernel_rfl) (mpr (gP10_1 c d a r) (doneL ⟨(f_rem 3 1540 u3 (by decide) hd (by exact hv2) (dN8 (m := 0) rfl)), (f_rem 4 2052 u4 (by decide) hc (by exact hv1) (dN8 (m := 1) rfl)), trivial⟩))) (TE_then (sg cl7_ok hm hG p2 (by kernel_rfl) (mpr (gP10_2 c d a r) (doneL trivial))) (TE_then (sg cl7_ok hm hG p3 (by kernel_rfl) (mpr (gP10_3 c d a r) (doneL trivial))) (TE_then (sg cl7_ok hm hG p4 (by kernel_rfl) (mpr (gP10_4 c d a r) (doneL trivial))) (tAB (sg cl7_ok hm hG pL (by kernel_rfl) (mpr (gP10_5 c d a r) (doneL trivial))) (t10_0 c d a r k ha hr (by omega) (by omega)) rfl)))))
  · exact TE_then (sg cl7_ok hm hG p0 (by kernel_rfl) (mpr (gP00_0 c d a r) (doneL trivial))) (TE_then (sg cl7_ok hm hG p1 (by kernel_rfl) (mpr (gP11_1 c d a r) (doneL ⟨(f_rem 3 1540 u3 (by decide) hd (by exact hv2) (dN8 (m := 1) rfl)), (f_rem 4 2052 u4 (by decide) hc (by exact hv1) (dN8 (m := 1) rfl)), trivial⟩))) (TE_then (sg cl7_ok hm hG p2 (by kernel_rfl) (mpr (gP11_2 c d a r) (doneL trivial))) (TE_then (sg cl7_ok hm hG p3 (by kernel_rfl) (mpr (gP11_3 c d a r) (doneL trivial))) (TE_then (sg cl7_ok hm hG p4 (by kernel_rfl) (mpr (gP11_4 c d a r) (doneL trivial))) (tAB (sg cl7_ok hm hG pL (by kernel_rfl) (mpr (gP11_5 c d a r) (doneL trivial))) (t11_0 c d a r k ha hr (by omega) (by omega)) rfl)))))
  · exact TE_then (sg cl7_ok hm hG p0 (by kernel_rfl) (mpr (gP00_0 c d a r) (doneL trivial))) (TE_then (sg cl7_ok hm hG p1 (by kernel_rfl) (mpr (gP12_1 c d a r) (doneL ⟨(f_rem 3 1540 u3 (by decide) hd (by exact hv2) (dN8 (m := 2) rfl)), (f_rem 4 2052 u4 (by decide) hc (by exact hv1) (dN8 (m := 1) rfl)), trivial⟩))) (TE_then (sg cl7_ok hm hG p2 (by kernel_rfl) (mpr (gP12_2 c d a r) (doneL trivial))) (TE_then (sg cl7_ok hm hG p3 (by kernel_rfl) (mpr (gP12_3 c d a r) (doneL trivial))) (TE_then (sg cl7_ok hm hG p4 (by kernel_rfl) (mpr (gP12_4 c d a r) (doneL trivial))) (tAB (sg cl7_ok hm hG pL (by kernel_rfl) (mpr (gP12_5 c d a r) (doneL trivial))) (t12_0 c d a r k ha hr (by omega) (by omega)) rfl)))))
  · exact TE_then (sg cl7_ok hm hG p0 (by kernel_rfl) (mpr (gP00_0 c d a r) (doneL trivial))) (TE_then (sg cl7_ok hm hG p1 (by kernel_rfl) (mpr (gP20_1 c d a r) (doneL ⟨(f_rem 3 1540 u3 (by decide) hd (by exact hv2) (dN8 (m := 0) rfl)), (f_rem 4 2052 u4 (by decide) hc (by exact hv1) (dN8 (m := 2) rfl)), trivial⟩))) (TE_then (sg cl7_ok hm hG p2 (by kernel_rfl) (mpr (gP20_2 c d a r) (doneL trivial))) (TE_then (sg cl7_ok hm hG p3 (by kernel_rfl) (mpr (gP20_3 c d a r) (doneL trivial))) (TE_then (sg cl7_ok hm hG p4 (by kernel_rfl) (mpr (gP20_4 c d a r) (doneL trivial))) (tAB (sg cl7_ok hm hG pL (by kernel_rfl) (mpr (gP20_5 c d a r) (doneL trivial))) (t20_0 c d a r k ha hr (by omega) (by omega)) rfl)))))
  · exact TE_then (sg cl7_ok hm hG p0 (by kernel_rfl) (mpr (gP00_0 c d a r) (doneL trivial))) (TE_then (sg cl7_ok hm hG p1 (by kernel_rfl) (mpr (gP21_1 c d a r) (doneL ⟨(f_rem 3 1540 u3 (by decide) hd (by exact hv2) (dN8 (m := 1) rfl)), (f_rem 4 2052 u4 (by decide) hc (by exact hv1) (dN8 (m := 2) rfl)), trivial⟩))) (TE_then (sg cl7_ok hm hG p2 (by kernel_rfl) (mpr (gP21_2 c d a r) (doneL trivial))) (TE_then (sg cl7_ok hm hG p3 (by kernel_rfl) (mpr (gP21_3 c d a r) (doneL trivial))) (TE_then (sg cl7_ok hm hG p4 (by kernel_rfl) (mpr (gP21_4 c d a r) (doneL trivial))) (tAB (sg cl7_ok hm hG pL (by kernel_rfl) (mpr (gP21_5 c d a r) (doneL trivial))) (t21_0 c d a r k ha hr (by omega) (by omega)) rfl)))))
  · exact TE_then (sg cl7_ok hm hG p0 (by kernel_rfl) (mpr (gP00_0 c d a r) (doneL trivial))) (TE_then (sg cl7_ok hm hG p1 (by kernel_rfl) (mpr (gP22_1 c d a r) (doneL ⟨(f_rem 3 1540 u3 (by decide) hd (by exact hv2) (dN8 (m := 2) rfl)), (f_rem 4 2052 u4 (by decide) hc (by exact hv1) (dN8 (m := 2) rfl)), trivial⟩))) (TE_then (sg cl7_ok hm hG p2 (by kernel_rfl) (mpr (gP22_2 c d a r) (doneL trivial))) (TE_then (sg cl7_ok hm hG p3 (by kernel_rfl) (mpr (gP22_3 c d a r) (doneL trivial))) (TE_then (sg cl7_ok hm hG p4 (by kernel_rfl) (mpr (gP22_4 c d a r) (doneL trivial))) (tAB (sg cl7_ok hm hG pL (by kernel_rfl) (mpr (gP22_5 c d a r) (doneL trivial))) (t22_0 c d a r k ha hr (by omega) (by omega)) rfl)))))
  · exact TE_then (sg cl7_ok hm hG p0 (by kernel_rfl) (mpr (gP00_0 c d a r) (doneL trivial))) (TE_then (sg cl7_ok hm hG p1 (by kernel_rfl) (mpr (gP30_1 c d a r) (doneL ⟨(f_rem 3 1540 u3 (by decide) hd (by exact hv2) (dN8 (m := 0) rfl)), (f_rem 4 2052 u4 (by decide) hc (by exact hv1) (dN8 (m := 3) rfl)), trivial⟩))) (TE_then (sg cl7_ok hm hG p2 (by kernel_rfl) (mpr (gP30_2 c d a r) (doneL trivial))) (TE_then (sg cl7_ok hm hG p3 (by kernel_rfl) (mpr (gP30_3 c d a r) (doneL trivial))) (TE_then (sg cl7_ok hm hG p4 (by kernel_rfl) (mpr (gP30_4 c d a r) (doneL trivial))) (tAB (sg cl7_ok hm hG pL (by kernel_rfl) (mpr (gP30_5 c d a r) (doneL trivial))) (t30_0 c d a r k ha hr (by omega) (by omega)) rfl)))))
  · exact TE_then (sg cl7_ok hm hG p0 (by kernel_rfl) (mpr (gP00_0 c d a r) (doneL trivial))) (TE_then (sg cl7_ok hm hG p1 (by kernel_rfl) (mpr (gP31_1 c d a r) (doneL ⟨(f_rem 3 1540 u3 (by decide) hd (by exact hv2) (dN8 (m := 1) rfl)), (f_rem 4 2052 u4 (by decide) hc (by exact hv1) (dN8 (m := 3) rfl)), trivial⟩))) (TE_then (sg cl7_ok hm hG p2 (by kernel_rfl) (mpr (gP31_2 c d a r) (doneL trivial))) (TE_then (sg cl7_ok hm hG p3 (by kernel_rfl) (mpr (gP31_3 c d a r) (doneL trivial))) (TE_then (sg cl7_ok hm hG p4 (by kernel_rfl) (mpr (gP31_4 c d a r) (doneL trivial))) (tAB (sg cl7_ok hm hG pL (by kernel_rfl) (mpr (gP31_5 c d a r) (doneL trivial))) (t31_0 c d a r k ha hr (by omega) (by omega)) rfl)))))
  · exact TE_then (sg cl7_ok hm hG p0 (by kernel_rfl) (mpr (gP00_0 c d a r) (doneL trivial))) (TE_then (sg cl7_ok hm hG p1 (by kernel_rfl) (mpr (gP32_1 c d a r) (doneL ⟨(f_rem 3 1540 u3 (by decide) hd (by exact hv2) (dN8 (m := 2) rfl)), (f_rem 4 2052 u4 (by decide) hc (by exact hv1) (dN8 (m := 3) rfl)), trivial⟩))) (TE_then (sg cl7_ok hm hG p2 (by kernel_rfl) (mpr (gP32_2 c d a r) (doneL trivial))) (TE_then (sg cl7_ok hm hG p3 (by kernel_rfl) (mpr (gP32_3 c d a r) (doneL trivial))) (TE_then (sg cl7_ok hm hG p4 (by kernel_rfl) (mpr (gP32_4 c d a r) (doneL trivial))) (tAB (sg cl7_ok hm hG pL (by kernel_rfl) (mpr (gP32_5 c d a r) (doneL trivial))) (t32_0 c d a r k ha hr (by omega) (by omega)) rfl)))))
end Go.M
