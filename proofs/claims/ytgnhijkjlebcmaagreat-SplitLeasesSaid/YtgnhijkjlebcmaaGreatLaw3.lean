/-
  SplitLeases gives back true for every list.
  The list's numbers come in as what the oracle says of each draw.
-/
import Derived.Test.YtgnhijkjlebcmaaGreatGs3z
import Derived.Test.YtgnhijkjlebcmaaGreatGs3y0
import Derived.Test.YtgnhijkjlebcmaaGreatGs3y1
import Derived.Test.YtgnhijkjlebcmaaGreatGs3y2
import Derived.Test.YtgnhijkjlebcmaaGreatGs3y3
import Derived.Test.YtgnhijkjlebcmaaGreatGs3y4
import Derived.Test.YtgnhijkjlebcmaaGreatGs3y5
import Derived.Test.YtgnhijkjlebcmaaGreatGs3y6
import Derived.Test.YtgnhijkjlebcmaaGreatGs3y7
import Derived.Test.YtgnhijkjlebcmaaGreatGs3y8
import Derived.Test.YtgnhijkjlebcmaaGreatGs3y9
import Derived.Test.YtgnhijkjlebcmaaGreatGs3y10
import Derived.Test.YtgnhijkjlebcmaaGreatGs3y11
import Derived.Test.YtgnhijkjlebcmaaGreatGs3y12
import Derived.Test.YtgnhijkjlebcmaaGreatGs3y13
import Derived.Test.YtgnhijkjlebcmaaGreatGs3y14
import Derived.Test.YtgnhijkjlebcmaaGreatGs3y15
import Derived.Test.YtgnhijkjlebcmaaGreatGs3y16
import Derived.Test.YtgnhijkjlebcmaaGreatGs3y17
import Derived.Test.YtgnhijkjlebcmaaGreatGs3y18
import Derived.Test.YtgnhijkjlebcmaaGreatGs3y19
import Derived.Test.YtgnhijkjlebcmaaGreatGs3y20
import Derived.Test.YtgnhijkjlebcmaaGreatGs3y21
import Derived.KernelRfl
set_option linter.unusedVariables false
set_option linter.unusedSectionVars false
set_option maxRecDepth 100000
namespace Go.M
open Go Go.Proofs
theorem fn3 (a : Option Addr) (len cap : Nat) (zs : List Int) (h : len ≤ cap) (w : World) (hL : HasL a len cap zs w) : Calls Tryz.prog 3 #[.slice a len cap] w fun e w' => e = .returned (.bool true) ∧ Go.RowKit.Below w.heap.size w w' := by
  letI l : Lst := ⟨a, len, cap, zs, h⟩
  have hv : denL Vz [⟨13, [], lst0⟩] #[Value.slice a len cap].toList := denL_cons.2 ⟨_, [], rfl, (den12 (x := ⟨13, [], lst0⟩) (.inr rfl)).2 ⟨rfl, rfl⟩, denL_nil.2 rfl⟩
  have hE0 : okF fun3 = true := by kernel_rfl
  have i0 : dvX ⟨0, [], oZ⟩ = some (.int .i64 ((0 : Nat) : Int)) := dvX_i 0
  have q0 : 0 ≤ n0L := Nat.zero_le _
  have e0 : fun3.sc = .seq (sL fun3.sc) (sR fun3.sc) := by kernel_rfl
  have e1 : (sR fun3.sc) = .seq (sL (sR fun3.sc)) (sR (sR fun3.sc)) := by kernel_rfl
  have e2 : (sR (sR fun3.sc)) = .seq (sL (sR (sR fun3.sc))) (sR (sR (sR fun3.sc))) := by kernel_rfl
  have e3 : (sR (sR (sR fun3.sc))) = .seq (sL (sR (sR (sR fun3.sc)))) (sR (sR (sR (sR fun3.sc)))) := by kernel_rfl
  have e4 : (sR (sR (sR (sR fun3.sc)))) = .seq (sL (sR (sR (sR (sR fun3.sc))))) (sR (sR (sR (sR (sR fun3.sc))))) := by kernel_rfl
  have e5 : (sR (sR (sR (sR (sR fun3.sc))))) = .seq (sL (sR (sR (sR (sR (sR fun3.sc)))))) (sR (sR (sR (sR (sR (sR fun3.sc)))))) := by kernel_rfl
  have e6 : (sR (sR (sR (sR (sR (sR fun3.sc)))))) = .seq (sL (sR (sR (sR (sR (sR (sR fun3.sc))))))) (sR (sR (sR (sR (sR (sR (sR fun3.sc))))))) := by kernel_rfl
  obtain ⟨m0, d0, b0⟩ := drw_case zsL n0L 0 5 (by omega)
  let p1 : Nat := nxt n0L 0
  have q1 : p1 ≤ n0L := nxt_le q0
  obtain ⟨m1, d1, b1⟩ := drw_case zsL n0L p1 4 (by omega)
  let p2 : Nat := nxt n0L p1
  have q2 : p2 ≤ n0L := nxt_le q1
  obtain ⟨m2, d2, b2⟩ := drw_case zsL n0L p2 2 (by omega)
  let p3 : Nat := nxt n0L p2
  refine law_TE cl16_ok ok3 hE0 (xs := [⟨13, [], lst0⟩]) rfl (fun cc nt hp hm hG => ?_) hv w hL
  obtain ⟨c0x, d0x, rfl, a0, z0⟩ := hp.sq e0
  obtain ⟨c1x, d1x, rfl, a1, z1⟩ := z0.sq e1
  obtain ⟨c2x, d2x, rfl, a2, z2⟩ := z1.sq e2
  obtain ⟨c3x, d3x, rfl, a3, z3⟩ := z2.sq e3
  obtain ⟨c4x, d4x, rfl, a4, z4⟩ := z3.sq e4
  obtain ⟨c5x, d5x, rfl, a5, z5⟩ := z4.sq e5
  obtain ⟨c6x, d6x, rfl, a6, z6⟩ := z5.sq e6
  refine TE_then (sg cl16_ok hm hG a0 (by kernel_rfl) (mpr (g3_0 0) (doneL trivial))) ?_
  refine TE_then (sg cl16_ok hm hG a1 (by kernel_rfl) (mpr (g3_1 0) (doneL ⟨rfl, trivial⟩))) ?_
  refine TE_then (sg cl16_ok hm hG a2 (by kernel_rfl) (mpr (g3_2 0) (doneL trivial))) ?_
  refine TE_then (sg cl16_ok hm hG a3 (by kernel_rfl) (mpr (g3_3 0) (doneL trivial))) ?_
  have c0 : m0 = 0 ∨ m0 = 1 ∨ m0 = 2 ∨ m0 = 3 ∨ m0 = 4 := by omega
  rcases c0 with rfl | rfl | rfl | rfl | rfl
  · skip
    refine TE_then (sg cl16_ok hm hG a4 (by kernel_rfl) (mpr (g3_4_0 0 (p1 : Nat)) (doneL ⟨drawF_ok i0 q0 d0 rfl rfl, trivial, trivial⟩))) ?_
    have c1 : m1 = 0 ∨ m1 = 1 ∨ m1 = 2 ∨ m1 = 3 := by omega
    rcases c1 with rfl | rfl | rfl | rfl
    · skip
      refine TE_then (sg cl16_ok hm hG a5 (by kernel_rfl) (mpr (g3_5_0_0 (p1 : Nat) (p2 : Nat)) (doneL ⟨drawF_ok dS q1 d1 rfl rfl, trivial, trivial⟩))) ?_
      refine TE_then (sg cl16_ok hm hG a6 (by kernel_rfl) (mpr (g3_6_0_0 (p2 : Nat)) (doneL trivial))) ?_
      have c2 : m2 = 0 ∨ m2 = 1 := by omega
      rcases c2 with rfl | rfl
      · skip
        exact sgE cl16_ok hm hG z6 (mpr (e3_0_0_0 (p2 : Nat) (p3 : Nat)) ⟨drawF_ok dS q2 d2 rfl rfl, trivial, trivial⟩)
      · skip
        exact sgE cl16_ok hm hG z6 (mpr (e3_0_0_1 (p2 : Nat) (p3 : Nat)) ⟨drawF_ok dS q2 d2 rfl rfl, trivial, trivial⟩)
    · skip
      refine TE_then (sg cl16_ok hm hG a5 (by kernel_rfl) (mpr (g3_5_0_1 (p1 : Nat) (p2 : Nat)) (doneL ⟨drawF_ok dS q1 d1 rfl rfl, trivial, trivial⟩))) ?_
      refine TE_then (sg cl16_ok hm hG a6 (by kernel_rfl) (mpr (g3_6_0_1 (p2 : Nat)) (doneL trivial))) ?_
      have c2 : m2 = 0 ∨ m2 = 1 := by omega
      rcases c2 with rfl | rfl
      · skip
        exact sgE cl16_ok hm hG z6 (mpr (e3_0_1_0 (p2 : Nat) (p3 : Nat)) ⟨drawF_ok dS q2 d2 rfl rfl, trivial, trivial⟩)
      · skip
        exact sgE cl16_ok hm hG z6 (mpr (e3_0_1_1 (p2 : Nat) (p3 : Nat)) ⟨drawF_ok dS q2 d2 rfl rfl, trivial, trivial⟩)
    · skip
      refine TE_then (sg cl16_ok hm hG a5 (by kernel_rfl) (mpr (g3_5_0_2 (p1 : Nat) (p2 : Nat)) (doneL ⟨drawF_ok dS q1 d1 rfl rfl, trivial, trivial⟩))) ?_
      refine TE_then (sg cl16_ok hm hG a6 (by kernel_rfl) (mpr (g3_6_0_2 (p2 : Nat)) (doneL trivial))) ?_
      have c2 : m2 = 0 ∨ m2 = 1 := by omega
      rcases c2 with rfl | rfl
      · skip
        exact sgE cl16_ok hm hG z6 (mpr (e3_0_2_0 (p2 : Nat) (p3 : Nat)) ⟨drawF_ok dS q2 d2 rfl rfl, trivial, trivial⟩)
      · skip
        exact sgE cl16_ok hm hG z6 (mpr (e3_0_2_1 (p2 : Nat) (p3 : Nat)) ⟨drawF_ok dS q2 d2 rfl rfl, trivial, trivial⟩)
    · skip
      refine TE_then (sg cl16_ok hm hG a5 (by kernel_rfl) (mpr (g3_5_0_3 (p1 : Nat) (p2 : Nat)) (doneL ⟨drawF_ok dS q1 d1 rfl rfl, trivial, trivial⟩))) ?_
      refine TE_then (sg cl16_ok hm hG a6 (by kernel_rfl) (mpr (g3_6_0_3 (p2 : Nat)) (doneL trivial))) ?_
      have c2 : m2 = 0 ∨ m2 = 1 := by omega
      rcases c2 with rfl | rfl
      · skip
        exact sgE cl16_ok hm hG z6 (mpr (e3_0_3_0 (p2 : Nat) (p3 : Nat)) ⟨drawF_ok dS q2 d2 rfl rfl, trivial, trivial⟩)
      · skip
        exact sgE cl16_ok hm hG z6 (mpr (e3_0_3_1 (p2 : Nat) (p3 : Nat)) ⟨drawF_ok dS q2 d2 rfl rfl, trivial, trivial⟩)
  · skip
    refine TE_then (sg cl16_ok hm hG a4 (by kernel_rfl) (mpr (g3_4_1 0 (p1 : Nat)) (doneL ⟨drawF_ok i0 q0 d0 rfl rfl, trivial, trivial⟩))) ?_
    have c1 : m1 = 0 ∨ m1 = 1 ∨ m1 = 2 ∨ m1 = 3 := by omega
    rcases c1 with rfl | rfl | rfl | rfl
    · skip
      refine TE_then (sg cl16_ok hm hG a5 (by kernel_rfl) (mpr (g3_5_1_0 (p1 : Nat) (p2 : Nat)) (doneL ⟨drawF_ok dS q1 d1 rfl rfl, trivial, trivial⟩))) ?_
      refine TE_then (sg cl16_ok hm hG a6 (by kernel_rfl) (mpr (g3_6_1_0 (p2 : Nat)) (doneL trivial))) ?_
      have c2 : m2 = 0 ∨ m2 = 1 := by omega
      rcases c2 with rfl | rfl
      · skip
        exact sgE cl16_ok hm hG z6 (mpr (e3_1_0_0 (p2 : Nat) (p3 : Nat)) ⟨drawF_ok dS q2 d2 rfl rfl, trivial, trivial⟩)
      · skip
        exact sgE cl16_ok hm hG z6 (mpr (e3_1_0_1 (p2 : Nat) (p3 : Nat)) ⟨drawF_ok dS q2 d2 rfl rfl, trivial, trivial⟩)
    · skip
      refine TE_then (sg cl16_ok hm hG a5 (by kernel_rfl) (mpr (g3_5_1_1 (p1 : Nat) (p2 : Nat)) (doneL ⟨drawF_ok dS q1 d1 rfl rfl, trivial, trivial⟩))) ?_
      refine TE_then (sg cl16_ok hm hG a6 (by kernel_rfl) (mpr (g3_6_1_1 (p2 : Nat)) (doneL trivial))) ?_
      have c2 : m2 = 0 ∨ m2 = 1 := by omega
      rcases c2 with rfl | rfl
      · skip
        exact sgE cl16_ok hm hG z6 (mpr (e3_1_1_0 (p2 : Nat) (p3 : Nat)) ⟨drawF_ok dS q2 d2 rfl rfl, trivial, trivial⟩)
      · skip
        exact sgE cl16_ok hm hG z6 (mpr (e3_1_1_1 (p2 : Nat) (p3 : Nat)) ⟨drawF_ok dS q2 d2 rfl rfl, trivial, trivial⟩)
    · skip
      refine TE_then (sg cl16_ok hm hG a5 (by kernel_rfl) (mpr (g3_5_1_2 (p1 : Nat) (p2 : Nat)) (doneL ⟨drawF_ok dS q1 d1 rfl rfl, trivial, trivial⟩))) ?_
      refine TE_then (sg cl16_ok hm hG a6 (by kernel_rfl) (mpr (g3_6_1_2 (p2 : Nat)) (doneL trivial))) ?_
      have c2 : m2 = 0 ∨ m2 = 1 := by omega
      rcases c2 with rfl | rfl
      · skip
        exact sgE cl16_ok hm hG z6 (mpr (e3_1_2_0 (p2 : Nat) (p3 : Nat)) ⟨drawF_ok dS q2 d2 rfl rfl, trivial, trivial⟩)
      · skip
        exact sgE cl16_ok hm hG z6 (mpr (e3_1_2_1 (p2 : Nat) (p3 : Nat)) ⟨drawF_ok dS q2 d2 rfl rfl, trivial, trivial⟩)
    · skip
      refine TE_then (sg cl16_ok hm hG a5 (by kernel_rfl) (mpr (g3_5_1_3 (p1 : Nat) (p2 : Nat)) (doneL ⟨drawF_ok dS q1 d1 rfl rfl, trivial, trivial⟩))) ?_
      refine TE_then (sg cl16_ok hm hG a6 (by kernel_rfl) (mpr (g3_6_1_3 (p2 : Nat)) (doneL trivial))) ?_
      have c2 : m2 = 0 ∨ m2 = 1 := by omega
      rcases c2 with rfl | rfl
      · skip
        exact sgE cl16_ok hm hG z6 (mpr (e3_1_3_0 (p2 : Nat) (p3 : Nat)) ⟨drawF_ok dS q2 d2 rfl rfl, trivial, trivial⟩)
      · skip
        exact sgE cl16_ok hm hG z6 (mpr (e3_1_3_1 (p2 : Nat) (p3 : Nat)) ⟨drawF_ok dS q2 d2 rfl rfl, trivial, trivial⟩)
  · skip
    refine TE_then (sg cl16_ok hm hG a4 (by kernel_rfl) (mpr (g3_4_2 0 (p1 : Nat)) (doneL ⟨drawF_ok i0 q0 d0 rfl rfl, trivial, trivial⟩))) ?_
    have c1 : m1 = 0 ∨ m1 = 1 ∨ m1 = 2 ∨ m1 = 3 := by omega
    rcases c1 with rfl | rfl | rfl | rfl
    · skip
      refine TE_then (sg cl16_ok hm hG a5 (by kernel_rfl) (mpr (g3_5_2_0 (p1 : Nat) (p2 : Nat)) (doneL ⟨drawF_ok dS q1 d1 rfl rfl, trivial, trivial⟩))) ?_
      refine TE_then (sg cl16_ok hm hG a6 (by kernel_rfl) (mpr (g3_6_2_0 (p2 : Nat)) (doneL trivial))) ?_
      have c2 : m2 = 0 ∨ m2 = 1 := by omega
      rcases c2 with rfl | rfl
      · skip
        exact sgE cl16_ok hm hG z6 (mpr (e3_2_0_0 (p2 : Nat) (p3 : Nat)) ⟨drawF_ok dS q2 d2 rfl rfl, trivial, trivial⟩)
      · skip
        exact sgE cl16_ok hm hG z6 (mpr (e3_2_0_1 (p2 : Nat) (p3 : Nat)) ⟨drawF_ok dS q2 d2 rfl rfl, trivial, trivial⟩)
    · skip
      refine TE_then (sg cl16_ok hm hG a5 (by kernel_rfl) (mpr (g3_5_2_1 (p1 : Nat) (p2 : Nat)) (doneL ⟨drawF_ok dS q1 d1 rfl rfl, trivial, trivial⟩))) ?_
      refine TE_then (sg cl16_ok hm hG a6 (by kernel_rfl) (mpr (g3_6_2_1 (p2 : Nat)) (doneL trivial))) ?_
      have c2 : m2 = 0 ∨ m2 = 1 := by omega
      rcases c2 with rfl | rfl
      · skip
        exact sgE cl16_ok hm hG z6 (mpr (e3_2_1_0 (p2 : Nat) (p3 : Nat)) ⟨drawF_ok dS q2 d2 rfl rfl, trivial, trivial⟩)
      · skip
        exact sgE cl16_ok hm hG z6 (mpr (e3_2_1_1 (p2 : Nat) (p3 : Nat)) ⟨drawF_ok dS q2 d2 rfl rfl, trivial, trivial⟩)
    · skip
      refine TE_then (sg cl16_ok hm hG a5 (by kernel_rfl) (mpr (g3_5_2_2 (p1 : Nat) (p2 : Nat)) (doneL ⟨drawF_ok dS q1 d1 rfl rfl, trivial, trivial⟩))) ?_
      refine TE_then (sg cl16_ok hm hG a6 (by kernel_rfl) (mpr (g3_6_2_2 (p2 : Nat)) (doneL trivial))) ?_
      have c2 : m2 = 0 ∨ m2 = 1 := by omega
      rcases c2 with rfl | rfl
      · skip
        exact sgE cl16_ok hm hG z6 (mpr (e3_2_2_0 (p2 : Nat) (p3 : Nat)) ⟨drawF_ok dS q2 d2 rfl rfl, trivial, trivial⟩)
      · skip
        exact sgE cl16_ok hm hG z6 (mpr (e3_2_2_1 (p2 : Nat) (p3 : Nat)) ⟨drawF_ok dS q2 d2 rfl rfl, trivial, trivial⟩)
    · skip
      refine TE_then (sg cl16_ok hm hG a5 (by kernel_rfl) (mpr (g3_5_2_3 (p1 : Nat) (p2 : Nat)) (doneL ⟨drawF_ok dS q1 d1 rfl rfl, trivial, trivial⟩))) ?_
      refine TE_then (sg cl16_ok hm hG a6 (by kernel_rfl) (mpr (g3_6_2_3 (p2 : Nat)) (doneL trivial))) ?_
      have c2 : m2 = 0 ∨ m2 = 1 := by omega
      rcases c2 with rfl | rfl
      · skip
        exact sgE cl16_ok hm hG z6 (mpr (e3_2_3_0 (p2 : Nat) (p3 : Nat)) ⟨drawF_ok dS q2 d2 rfl rfl, trivial, trivial⟩)
      · skip
        exact sgE cl16_ok hm hG z6 (mpr (e3_2_3_1 (p2 : Nat) (p3 : Nat)) ⟨drawF_ok dS q2 d2 rfl rfl, trivial, trivial⟩)
  · skip
    refine TE_then (sg cl16_ok hm hG a4 (by kernel_rfl) (mpr (g3_4_3 0 (p1 : Nat)) (doneL ⟨drawF_ok i0 q0 d0 rfl rfl, trivial, trivial⟩))) ?_
    have c1 : m1 = 0 ∨ m1 = 1 ∨ m1 = 2 ∨ m1 = 3 := by omega
    rcases c1 with rfl | rfl | rfl | rfl
    · skip
      refine TE_then (sg cl16_ok hm hG a5 (by kernel_rfl) (mpr (g3_5_3_0 (p1 : Nat) (p2 : Nat)) (doneL ⟨drawF_ok dS q1 d1 rfl rfl, trivial, trivial⟩))) ?_
      refine TE_then (sg cl16_ok hm hG a6 (by kernel_rfl) (mpr (g3_6_3_0 (p2 : Nat)) (doneL trivial))) ?_
      have c2 : m2 = 0 ∨ m2 = 1 := by omega
      rcases c2 with rfl | rfl
      · skip
        exact sgE cl16_ok hm hG z6 (mpr (e3_3_0_0 (p2 : Nat) (p3 : Nat)) ⟨drawF_ok dS q2 d2 rfl rfl, trivial, trivial⟩)
      · skip
        exact sgE cl16_ok hm hG z6 (mpr (e3_3_0_1 (p2 : Nat) (p3 : Nat)) ⟨drawF_ok dS q2 d2 rfl rfl, trivial, trivial⟩)
    · skip
      refine TE_then (sg cl16_ok hm hG a5 (by kernel_rfl) (mpr (g3_5_3_1 (p1 : Nat) (p2 : Nat)) (doneL ⟨drawF_ok dS q1 d1 rfl rfl, trivial, trivial⟩))) ?_
      refine TE_then (sg cl16_ok hm hG a6 (by kernel_rfl) (mpr (g3_6_3_1 (p2 : Nat)) (doneL trivial))) ?_
      have c2 : m2 = 0 ∨ m2 = 1 := by omega
      rcases c2 with rfl | rfl
      · skip
        exact sgE cl16_ok hm hG z6 (mpr (e3_3_1_0 (p2 : Nat) (p3 : Nat)) ⟨drawF_ok dS q2 d2 rfl rfl, trivial, trivial⟩)
      · skip
        exact sgE cl16_ok hm hG z6 (mpr (e3_3_1_1 (p2 : Nat) (p3 : Nat)) ⟨drawF_ok dS q2 d2 rfl rfl, trivial, trivial⟩)
    · skip
      refine TE_then (sg cl16_ok hm hG a5 (by kernel_rfl) (mpr (g3_5_3_2 (p1 : Nat) (p2 : Nat)) (doneL ⟨drawF_ok dS q1 d1 rfl rfl, trivial, trivial⟩))) ?_
      refine TE_then (sg cl16_ok hm hG a6 (by kernel_rfl) (mpr (g3_6_3_2 (p2 : Nat)) (doneL trivial))) ?_
      have c2 : m2 = 0 ∨ m2 = 1 := by omega
      rcases c2 with rfl | rfl
      · skip
        exact sgE cl16_ok hm hG z6 (mpr (e3_3_2_0 (p2 : Nat) (p3 : Nat)) ⟨drawF_ok dS q2 d2 rfl rfl, trivial, trivial⟩)
      · skip
        exact sgE cl16_ok hm hG z6 (mpr (e3_3_2_1 (p2 : Nat) (p3 : Nat)) ⟨drawF_ok dS q2 d2 rfl rfl, trivial, trivial⟩)
    · skip
      refine TE_then (sg cl16_ok hm hG a5 (by kernel_rfl) (mpr (g3_5_3_3 (p1 : Nat) (p2 : Nat)) (doneL ⟨drawF_ok dS q1 d1 rfl rfl, trivial, trivial⟩))) ?_
      refine TE_then (sg cl16_ok hm hG a6 (by kernel_rfl) (mpr (g3_6_3_3 (p2 : Nat)) (doneL trivial))) ?_
      have c2 : m2 = 0 ∨ m2 = 1 := by omega
      rcases c2 with rfl | rfl
      · skip
        exact sgE cl16_ok hm hG z6 (mpr (e3_3_3_0 (p2 : Nat) (p3 : Nat)) ⟨drawF_ok dS q2 d2 rfl rfl, trivial, trivial⟩)
      · skip
        exact sgE cl16_ok hm hG z6 (mpr (e3_3_3_1 (p2 : Nat) (p3 : Nat)) ⟨drawF_ok dS q2 d2 rfl rfl, trivial, trivial⟩)
  · skip
    refine TE_then (sg cl16_ok hm hG a4 (by kernel_rfl) (mpr (g3_4_4 0 (p1 : Nat)) (doneL ⟨drawF_ok i0 q0 d0 rfl rfl, trivial, trivial⟩))) ?_
    have c1 : m1 = 0 ∨ m1 = 1 ∨ m1 = 2 ∨ m1 = 3 := by omega
    rcases c1 with rfl | rfl | rfl | rfl
    · skip
      refine TE_then (sg cl16_ok hm hG a5 (by kernel_rfl) (mpr (g3_5_4_0 (p1 : Nat) (p2 : Nat)) (doneL ⟨drawF_ok dS q1 d1 rfl rfl, trivial, trivial⟩))) ?_
      refine TE_then (sg cl16_ok hm hG a6 (by kernel_rfl) (mpr (g3_6_4_0 (p2 : Nat)) (doneL trivial))) ?_
      have c2 : m2 = 0 ∨ m2 = 1 := by omega
      rcases c2 with rfl | rfl
      · skip
        exact sgE cl16_ok hm hG z6 (mpr (e3_4_0_0 (p2 : Nat) (p3 : Nat)) ⟨drawF_ok dS q2 d2 rfl rfl, trivial, trivial⟩)
      · skip
        exact sgE cl16_ok hm hG z6 (mpr (e3_4_0_1 (p2 : Nat) (p3 : Nat)) ⟨drawF_ok dS q2 d2 rfl rfl, trivial, trivial⟩)
    · skip
      refine TE_then (sg cl16_ok hm hG a5 (by kernel_rfl) (mpr (g3_5_4_1 (p1 : Nat) (p2 : Nat)) (doneL ⟨drawF_ok dS q1 d1 rfl rfl, trivial, trivial⟩))) ?_
      refine TE_then (sg cl16_ok hm hG a6 (by kernel_rfl) (mpr (g3_6_4_1 (p2 : Nat)) (doneL trivial))) ?_
      have c2 : m2 = 0 ∨ m2 = 1 := by omega
      rcases c2 with rfl | rfl
      · skip
        exact sgE cl16_ok hm hG z6 (mpr (e3_4_1_0 (p2 : Nat) (p3 : Nat)) ⟨drawF_ok dS q2 d2 rfl rfl, trivial, trivial⟩)
      · skip
        exact sgE cl16_ok hm hG z6 (mpr (e3_4_1_1 (p2 : Nat) (p3 : Nat)) ⟨drawF_ok dS q2 d2 rfl rfl, trivial, trivial⟩)
    · skip
      refine TE_then (sg cl16_ok hm hG a5 (by kernel_rfl) (mpr (g3_5_4_2 (p1 : Nat) (p2 : Nat)) (doneL ⟨drawF_ok dS q1 d1 rfl rfl, trivial, trivial⟩))) ?_
      refine TE_then (sg cl16_ok hm hG a6 (by kernel_rfl) (mpr (g3_6_4_2 (p2 : Nat)) (doneL trivial))) ?_
      have c2 : m2 = 0 ∨ m2 = 1 := by omega
      rcases c2 with rfl | rfl
      · skip
        exact sgE cl16_ok hm hG z6 (mpr (e3_4_2_0 (p2 : Nat) (p3 : Nat)) ⟨drawF_ok dS q2 d2 rfl rfl, trivial, trivial⟩)
      · skip
        exact sgE cl16_ok hm hG z6 (mpr (e3_4_2_1 (p2 : Nat) (p3 : Nat)) ⟨drawF_ok dS q2 d2 rfl rfl, trivial, trivial⟩)
    · skip
      refine TE_then (sg cl16_ok hm hG a5 (by kernel_rfl) (mpr (g3_5_4_3 (p1 : Nat) (p2 : Nat)) (doneL ⟨drawF_ok dS q1 d1 rfl rfl, trivial, trivial⟩))) ?_
      refine TE_then (sg cl16_ok hm hG a6 (by kernel_rfl) (mpr (g3_6_4_3 (p2 : Nat)) (doneL trivial))) ?_
      have c2 : m2 = 0 ∨ m2 = 1 := by omega
      rcases c2 with rfl | rfl
      · skip
        exact sgE cl16_ok hm hG z6 (mpr (e3_4_3_0 (p2 : Nat) (p3 : Nat)) ⟨drawF_ok dS q2 d2 rfl rfl, trivial, trivial⟩)
      · skip
        exact sgE cl16_ok hm hG z6 (mpr (e3_4_3_1 (p2 : Nat) (p3 : Nat)) ⟨drawF_ok dS q2 d2 rfl rfl, trivial, trivial⟩)
end Go.M
