/-
  MergeLeases gives back true for every list.
  The list's numbers come in as what the oracle says of each draw.
-/
import Derived.Test.YtgnhijkjlebcmaaGreatGs4z
import Derived.Test.YtgnhijkjlebcmaaGreatGs4y0
import Derived.Test.YtgnhijkjlebcmaaGreatGs4y1
import Derived.Test.YtgnhijkjlebcmaaGreatGs4y2
import Derived.Test.YtgnhijkjlebcmaaGreatGs4y3
import Derived.Test.YtgnhijkjlebcmaaGreatGs4y4
import Derived.Test.YtgnhijkjlebcmaaGreatGs4y5
import Derived.Test.YtgnhijkjlebcmaaGreatGs4y6
import Derived.Test.YtgnhijkjlebcmaaGreatGs4y7
import Derived.Test.YtgnhijkjlebcmaaGreatGs4y8
import Derived.Test.YtgnhijkjlebcmaaGreatGs4y9
import Derived.Test.YtgnhijkjlebcmaaGreatGs4y10
import Derived.Test.YtgnhijkjlebcmaaGreatGs4y11
import Derived.Test.YtgnhijkjlebcmaaGreatGs4y12
import Derived.Test.YtgnhijkjlebcmaaGreatGs4y13
import Derived.Test.YtgnhijkjlebcmaaGreatGs4y14
import Derived.Test.YtgnhijkjlebcmaaGreatGs4y15
import Derived.Test.YtgnhijkjlebcmaaGreatGs4y16
import Derived.Test.YtgnhijkjlebcmaaGreatGs4y17
import Derived.Test.YtgnhijkjlebcmaaGreatGs4y18
import Derived.Test.YtgnhijkjlebcmaaGreatGs4y19
import Derived.Test.YtgnhijkjlebcmaaGreatGs4y20
import Derived.Test.YtgnhijkjlebcmaaGreatGs4y21
import Derived.Test.YtgnhijkjlebcmaaGreatGs4y22
import Derived.Test.YtgnhijkjlebcmaaGreatGs4y23
import Derived.KernelRfl
set_option linter.unusedVariables false
set_option linter.unusedSectionVars false
set_option maxRecDepth 100000
namespace Go.M
open Go Go.Proofs
theorem fn4 (a : Option Addr) (len cap : Nat) (zs : List Int) (h : len ≤ cap) (w : World) (hL : HasL a len cap zs w) : Calls Tryz.prog 4 #[.slice a len cap] w fun e w' => e = .returned (.bool true) ∧ Go.RowKit.Below w.heap.size w w' := by
  letI l : Lst := ⟨a, len, cap, zs, h⟩
  have hv : denL Vz [⟨13, [], lst0⟩] #[Value.slice a len cap].toList := denL_cons.2 ⟨_, [], rfl, (den12 (x := ⟨13, [], lst0⟩) (.inr rfl)).2 ⟨rfl, rfl⟩, denL_nil.2 rfl⟩
  have hE0 : okF fun4 = true := by kernel_rfl
  have i0 : dvX ⟨0, [], oZ⟩ = some (.int .i64 ((0 : Nat) : Int)) := dvX_i 0
  have q0 : 0 ≤ n0L := Nat.zero_le _
  have e0 : fun4.sc = .seq (sL fun4.sc) (sR fun4.sc) := by kernel_rfl
  have e1 : (sR fun4.sc) = .seq (sL (sR fun4.sc)) (sR (sR fun4.sc)) := by kernel_rfl
  have e2 : (sR (sR fun4.sc)) = .seq (sL (sR (sR fun4.sc))) (sR (sR (sR fun4.sc))) := by kernel_rfl
  have e3 : (sR (sR (sR fun4.sc))) = .seq (sL (sR (sR (sR fun4.sc)))) (sR (sR (sR (sR fun4.sc)))) := by kernel_rfl
  have e4 : (sR (sR (sR (sR fun4.sc)))) = .seq (sL (sR (sR (sR (sR fun4.sc))))) (sR (sR (sR (sR (sR fun4.sc))))) := by kernel_rfl
  have e5 : (sR (sR (sR (sR (sR fun4.sc))))) = .seq (sL (sR (sR (sR (sR (sR fun4.sc)))))) (sR (sR (sR (sR (sR (sR fun4.sc)))))) := by kernel_rfl
  obtain ⟨m0, d0, b0⟩ := drw_case zsL n0L 0 6 (by omega)
  let p1 : Nat := nxt n0L 0
  have q1 : p1 ≤ n0L := nxt_le q0
  obtain ⟨m1, d1, b1⟩ := drw_case zsL n0L p1 2 (by omega)
  let p2 : Nat := nxt n0L p1
  refine law_TE cl19_ok ok4 hE0 (xs := [⟨13, [], lst0⟩]) rfl (fun cc nt hp hm hG => ?_) hv w hL
  obtain ⟨c0x, d0x, rfl, a0, z0⟩ := hp.sq e0
  obtain ⟨c1x, d1x, rfl, a1, z1⟩ := z0.sq e1
  obtain ⟨c2x, d2x, rfl, a2, z2⟩ := z1.sq e2
  obtain ⟨c3x, d3x, rfl, a3, z3⟩ := z2.sq e3
  obtain ⟨c4x, d4x, rfl, a4, z4⟩ := z3.sq e4
  obtain ⟨c5x, d5x, rfl, a5, z5⟩ := z4.sq e5
  refine TE_then (sg cl19_ok hm hG a0 (by kernel_rfl) (mpr (g4_0 0) (doneL trivial))) ?_
  refine TE_then (sg cl19_ok hm hG a1 (by kernel_rfl) (mpr (g4_1 0) (doneL ⟨rfl, trivial⟩))) ?_
  refine TE_then (sg cl19_ok hm hG a2 (by kernel_rfl) (mpr (g4_2 0) (doneL trivial))) ?_
  refine TE_then (sg cl19_ok hm hG a3 (by kernel_rfl) (mpr (g4_3 0) (doneL trivial))) ?_
  have c0 : m0 = 0 ∨ m0 = 1 ∨ m0 = 2 ∨ m0 = 3 ∨ m0 = 4 ∨ m0 = 5 := by omega
  rcases c0 with rfl | rfl | rfl | rfl | rfl | rfl
  · skip
    refine TE_then (sg cl19_ok hm hG a4 (by kernel_rfl) (mpr (g4_4_0 0 (p1 : Nat)) (doneL ⟨drawF_ok i0 q0 d0 rfl rfl, trivial, trivial⟩))) ?_
    refine TE_then (sg cl19_ok hm hG a5 (by kernel_rfl) (mpr (g4_5_0 (p1 : Nat)) (doneL trivial))) ?_
    have c1 : m1 = 0 ∨ m1 = 1 := by omega
    rcases c1 with rfl | rfl
    · skip
      exact sgE cl19_ok hm hG z5 (mpr (e4_0_0 (p1 : Nat) (p2 : Nat)) ⟨drawF_ok dS q1 d1 rfl rfl, trivial, trivial⟩)
    · skip
      exact sgE cl19_ok hm hG z5 (mpr (e4_0_1 (p1 : Nat) (p2 : Nat)) ⟨drawF_ok dS q1 d1 rfl rfl, trivial, trivial⟩)
  · skip
    refine TE_then (sg cl19_ok hm hG a4 (by kernel_rfl) (mpr (g4_4_1 0 (p1 : Nat)) (doneL ⟨drawF_ok i0 q0 d0 rfl rfl, trivial, trivial⟩))) ?_
    refine TE_then (sg cl19_ok hm hG a5 (by kernel_rfl) (mpr (g4_5_1 (p1 : Nat)) (doneL trivial))) ?_
    have c1 : m1 = 0 ∨ m1 = 1 := by omega
    rcases c1 with rfl | rfl
    · skip
      exact sgE cl19_ok hm hG z5 (mpr (e4_1_0 (p1 : Nat) (p2 : Nat)) ⟨drawF_ok dS q1 d1 rfl rfl, trivial, trivial⟩)
    · skip
      exact sgE cl19_ok hm hG z5 (mpr (e4_1_1 (p1 : Nat) (p2 : Nat)) ⟨drawF_ok dS q1 d1 rfl rfl, trivial, trivial⟩)
  · skip
    refine TE_then (sg cl19_ok hm hG a4 (by kernel_rfl) (mpr (g4_4_2 0 (p1 : Nat)) (doneL ⟨drawF_ok i0 q0 d0 rfl rfl, trivial, trivial⟩))) ?_
    refine TE_then (sg cl19_ok hm hG a5 (by kernel_rfl) (mpr (g4_5_2 (p1 : Nat)) (doneL trivial))) ?_
    have c1 : m1 = 0 ∨ m1 = 1 := by omega
    rcases c1 with rfl | rfl
    · skip
      exact sgE cl19_ok hm hG z5 (mpr (e4_2_0 (p1 : Nat) (p2 : Nat)) ⟨drawF_ok dS q1 d1 rfl rfl, trivial, trivial⟩)
    · skip
      exact sgE cl19_ok hm hG z5 (mpr (e4_2_1 (p1 : Nat) (p2 : Nat)) ⟨drawF_ok dS q1 d1 rfl rfl, trivial, trivial⟩)
  · skip
    refine TE_then (sg cl19_ok hm hG a4 (by kernel_rfl) (mpr (g4_4_3 0 (p1 : Nat)) (doneL ⟨drawF_ok i0 q0 d0 rfl rfl, trivial, trivial⟩))) ?_
    refine TE_then (sg cl19_ok hm hG a5 (by kernel_rfl) (mpr (g4_5_3 (p1 : Nat)) (doneL trivial))) ?_
    have c1 : m1 = 0 ∨ m1 = 1 := by omega
    rcases c1 with rfl | rfl
    · skip
      exact sgE cl19_ok hm hG z5 (mpr (e4_3_0 (p1 : Nat) (p2 : Nat)) ⟨drawF_ok dS q1 d1 rfl rfl, trivial, trivial⟩)
    · skip
      exact sgE cl19_ok hm hG z5 (mpr (e4_3_1 (p1 : Nat) (p2 : Nat)) ⟨drawF_ok dS q1 d1 rfl rfl, trivial, trivial⟩)
  · skip
    refine TE_then (sg cl19_ok hm hG a4 (by kernel_rfl) (mpr (g4_4_4 0 (p1 : Nat)) (doneL ⟨drawF_ok i0 q0 d0 rfl rfl, trivial, trivial⟩))) ?_
    refine TE_then (sg cl19_ok hm hG a5 (by kernel_rfl) (mpr (g4_5_4 (p1 : Nat)) (doneL trivial))) ?_
    have c1 : m1 = 0 ∨ m1 = 1 := by omega
    rcases c1 with rfl | rfl
    · skip
      exact sgE cl19_ok hm hG z5 (mpr (e4_4_0 (p1 : Nat) (p2 : Nat)) ⟨drawF_ok dS q1 d1 rfl rfl, trivial, trivial⟩)
    · skip
      exact sgE cl19_ok hm hG z5 (mpr (e4_4_1 (p1 : Nat) (p2 : Nat)) ⟨drawF_ok dS q1 d1 rfl rfl, trivial, trivial⟩)
  · skip
    refine TE_then (sg cl19_ok hm hG a4 (by kernel_rfl) (mpr (g4_4_5 0 (p1 : Nat)) (doneL ⟨drawF_ok i0 q0 d0 rfl rfl, trivial, trivial⟩))) ?_
    refine TE_then (sg cl19_ok hm hG a5 (by kernel_rfl) (mpr (g4_5_5 (p1 : Nat)) (doneL trivial))) ?_
    have c1 : m1 = 0 ∨ m1 = 1 := by omega
    rcases c1 with rfl | rfl
    · skip
      exact sgE cl19_ok hm hG z5 (mpr (e4_5_0 (p1 : Nat) (p2 : Nat)) ⟨drawF_ok dS q1 d1 rfl rfl, trivial, trivial⟩)
    · skip
      exact sgE cl19_ok hm hG z5 (mpr (e4_5_1 (p1 : Nat) (p2 : Nat)) ⟨drawF_ok dS q1 d1 rfl rfl, trivial, trivial⟩)
end Go.M
