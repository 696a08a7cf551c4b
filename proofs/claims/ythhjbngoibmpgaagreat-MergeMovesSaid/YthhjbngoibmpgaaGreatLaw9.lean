/-
  MergeMoves gives back true for every list.
  The list's numbers come in as what the oracle says of each draw.
-/
import Derived.Test.YthhjbngoibmpgaaGreatGs9z
import Derived.Test.YthhjbngoibmpgaaGreatGs9y0
import Derived.Test.YthhjbngoibmpgaaGreatGs9y1
import Derived.Test.YthhjbngoibmpgaaGreatGs9y2
import Derived.Test.YthhjbngoibmpgaaGreatGs9y3
import Derived.Test.YthhjbngoibmpgaaGreatGs9y4
import Derived.Test.YthhjbngoibmpgaaGreatGs9y5
import Derived.Test.YthhjbngoibmpgaaGreatGs9y6
import Derived.Test.YthhjbngoibmpgaaGreatGs9y7
import Derived.Test.YthhjbngoibmpgaaGreatGs9y8
import Derived.Test.YthhjbngoibmpgaaGreatGs9y9
import Derived.Test.YthhjbngoibmpgaaGreatGs9y10
import Derived.Test.YthhjbngoibmpgaaGreatGs9y11
import Derived.Test.YthhjbngoibmpgaaGreatGs9y12
import Derived.Test.YthhjbngoibmpgaaGreatGs9y13
import Derived.Test.YthhjbngoibmpgaaGreatGs9y14
import Derived.Test.YthhjbngoibmpgaaGreatGs9y15
import Derived.Test.YthhjbngoibmpgaaGreatGs9y16
import Derived.Test.YthhjbngoibmpgaaGreatGs9y17
import Derived.Test.YthhjbngoibmpgaaGreatGs9y18
import Derived.Test.YthhjbngoibmpgaaGreatGs9y19
import Derived.KernelRfl
set_option linter.unusedVariables false
set_option linter.unusedSectionVars false
set_option maxRecDepth 100000
namespace Go.M
open Go Go.Proofs
theorem fn9 (a : Option Addr) (len cap : Nat) (zs : List Int) (h : len ≤ cap) (w : World) (hL : HasL a len cap zs w) : Calls Tryz.prog 9 #[.slice a len cap] w fun e w' => e = .returned (.bool true) ∧ Go.RowKit.Below w.heap.size w w' := by
  letI l : Lst := ⟨a, len, cap, zs, h⟩
  have hv : denL Vz [⟨13, [], lst0⟩] #[Value.slice a len cap].toList := denL_cons.2 ⟨_, [], rfl, (den12 (x := ⟨13, [], lst0⟩) (.inr rfl)).2 ⟨rfl, rfl⟩, denL_nil.2 rfl⟩
  have hE0 : okF fun9 = true := by kernel_rfl
  have i0 : dvX ⟨0, [], oZ⟩ = some (.int .i64 ((0 : Nat) : Int)) := dvX_i 0
  have q0 : 0 ≤ n0L := Nat.zero_le _
  have e0 : fun9.sc = .seq (sL fun9.sc) (sR fun9.sc) := by kernel_rfl
  have e1 : (sR fun9.sc) = .seq (sL (sR fun9.sc)) (sR (sR fun9.sc)) := by kernel_rfl
  have e2 : (sR (sR fun9.sc)) = .seq (sL (sR (sR fun9.sc))) (sR (sR (sR fun9.sc))) := by kernel_rfl
  have e3 : (sR (sR (sR fun9.sc))) = .seq (sL (sR (sR (sR fun9.sc)))) (sR (sR (sR (sR fun9.sc)))) := by kernel_rfl
  have e4 : (sR (sR (sR (sR fun9.sc)))) = .seq (sL (sR (sR (sR (sR fun9.sc))))) (sR (sR (sR (sR (sR fun9.sc))))) := by kernel_rfl
  obtain ⟨m0, d0, b0⟩ := drw_case zsL n0L 0 11 (by omega)
  let p1 : Nat := nxt n0L 0
  have q1 : p1 ≤ n0L := nxt_le q0
  obtain ⟨m1, d1, b1⟩ := drw_case zsL n0L p1 2 (by omega)
  let p2 : Nat := nxt n0L p1
  refine law_TE cl39_ok ok9 hE0 (xs := [⟨13, [], lst0⟩]) rfl (fun cc nt hp hm hG => ?_) hv w hL
  obtain ⟨c0x, d0x, rfl, a0, z0⟩ := hp.sq e0
  obtain ⟨c1x, d1x, rfl, a1, z1⟩ := z0.sq e1
  obtain ⟨c2x, d2x, rfl, a2, z2⟩ := z1.sq e2
  obtain ⟨c3x, d3x, rfl, a3, z3⟩ := z2.sq e3
  obtain ⟨c4x, d4x, rfl, a4, z4⟩ := z3.sq e4
  refine TE_then (sg cl39_ok hm hG a0 (by kernel_rfl) (mpr (g9_0 0) (doneL trivial))) ?_
  refine TE_then (sg cl39_ok hm hG a1 (by kernel_rfl) (mpr (g9_1 0) (doneL ⟨rfl, trivial⟩))) ?_
  refine TE_then (sg cl39_ok hm hG a2 (by kernel_rfl) (mpr (g9_2 0) (doneL trivial))) ?_
  have c0 : m0 = 0 ∨ m0 = 1 ∨ m0 = 2 ∨ m0 = 3 ∨ m0 = 4 ∨ m0 = 5 ∨ m0 = 6 ∨ m0 = 7 ∨ m0 = 8 ∨ m0 = 9 ∨ m0 = 10 := by omega
  rcases c0 with rfl | rfl | rfl | rfl | rfl | rfl | rfl | rfl | rfl | rfl | rfl
  · skip
    refine TE_then (sg cl39_ok hm hG a3 (by kernel_rfl) (mpr (g9_3_0 0 (p1 : Nat)) (doneL ⟨drawF_ok i0 q0 d0 rfl rfl, trivial, trivial⟩))) ?_
    refine TE_then (sg cl39_ok hm hG a4 (by kernel_rfl) (mpr (g9_4_0 (p1 : Nat)) (doneL trivial))) ?_
    have c1 : m1 = 0 ∨ m1 = 1 := by omega
    rcases c1 with rfl | rfl
    · skip
      exact sgE cl39_ok hm hG z4 (mpr (e9_0_0 (p1 : Nat) (p2 : Nat)) ⟨drawF_ok dS q1 d1 rfl rfl, trivial, trivial⟩)
    · skip
      exact sgE cl39_ok hm hG z4 (mpr (e9_0_1 (p1 : Nat) (p2 : Nat)) ⟨drawF_ok dS q1 d1 rfl rfl, trivial, trivial⟩)
  · skip
    refine TE_then (sg cl39_ok hm hG a3 (by kernel_rfl) (mpr (g9_3_1 0 (p1 : Nat)) (doneL ⟨drawF_ok i0 q0 d0 rfl rfl, trivial, trivial⟩))) ?_
    refine TE_then (sg cl39_ok hm hG a4 (by kernel_rfl) (mpr (g9_4_1 (p1 : Nat)) (doneL trivial))) ?_
    have c1 : m1 = 0 ∨ m1 = 1 := by omega
    rcases c1 with rfl | rfl
    · skip
      exact sgE cl39_ok hm hG z4 (mpr (e9_1_0 (p1 : Nat) (p2 : Nat)) ⟨drawF_ok dS q1 d1 rfl rfl, trivial, trivial⟩)
    · skip
      exact sgE cl39_ok hm hG z4 (mpr (e9_1_1 (p1 : Nat) (p2 : Nat)) ⟨drawF_ok dS q1 d1 rfl rfl, trivial, trivial⟩)
  · skip
    refine TE_then (sg cl39_ok hm hG a3 (by kernel_rfl) (mpr (g9_3_2 0 (p1 : Nat)) (doneL ⟨drawF_ok i0 q0 d0 rfl rfl, trivial, trivial⟩))) ?_
    refine TE_then (sg cl39_ok hm hG a4 (by kernel_rfl) (mpr (g9_4_2 (p1 : Nat)) (doneL trivial))) ?_
    have c1 : m1 = 0 ∨ m1 = 1 := by omega
    rcases c1 with rfl | rfl
    · skip
      exact sgE cl39_ok hm hG z4 (mpr (e9_2_0 (p1 : Nat) (p2 : Nat)) ⟨drawF_ok dS q1 d1 rfl rfl, trivial, trivial⟩)
    · skip
      exact sgE cl39_ok hm hG z4 (mpr (e9_2_1 (p1 : Nat) (p2 : Nat)) ⟨drawF_ok dS q1 d1 rfl rfl, trivial, trivial⟩)
  · skip
    refine TE_then (sg cl39_ok hm hG a3 (by kernel_rfl) (mpr (g9_3_3 0 (p1 : Nat)) (doneL ⟨drawF_ok i0 q0 d0 rfl rfl, trivial, trivial⟩))) ?_
    refine TE_then (sg cl39_ok hm hG a4 (by kernel_rfl) (mpr (g9_4_3 (p1 : Nat)) (doneL trivial))) ?_
    have c1 : m1 = 0 ∨ m1 = 1 := by omega
    rcases c1 with rfl | rfl
    · skip
      exact sgE cl39_ok hm hG z4 (mpr (e9_3_0 (p1 : Nat) (p2 : Nat)) ⟨drawF_ok dS q1 d1 rfl rfl, trivial, trivial⟩)
    · skip
      exact sgE cl39_ok hm hG z4 (mpr (e9_3_1 (p1 : Nat) (p2 : Nat)) ⟨drawF_ok dS q1 d1 rfl rfl, trivial, trivial⟩)
  · skip
    refine TE_then (sg cl39_ok hm hG a3 (by kernel_rfl) (mpr (g9_3_4 0 (p1 : Nat)) (doneL ⟨drawF_ok i0 q0 d0 rfl rfl, trivial, trivial⟩))) ?_
    refine TE_then (sg cl39_ok hm hG a4 (by kernel_rfl) (mpr (g9_4_4 (p1 : Nat)) (doneL trivial))) ?_
    have c1 : m1 = 0 ∨ m1 = 1 := by omega
    rcases c1 with rfl | rfl
    · skip
      exact sgE cl39_ok hm hG z4 (mpr (e9_4_0 (p1 : Nat) (p2 : Nat)) ⟨drawF_ok dS q1 d1 rfl rfl, trivial, trivial⟩)
    · skip
      exact sgE cl39_ok hm hG z4 (mpr (e9_4_1 (p1 : Nat) (p2 : Nat)) ⟨drawF_ok dS q1 d1 rfl rfl, trivial, trivial⟩)
  · skip
    refine TE_then (sg cl39_ok hm hG a3 (by kernel_rfl) (mpr (g9_3_5 0 (p1 : Nat)) (doneL ⟨drawF_ok i0 q0 d0 rfl rfl, trivial, trivial⟩))) ?_
    refine TE_then (sg cl39_ok hm hG a4 (by kernel_rfl) (mpr (g9_4_5 (p1 : Nat)) (doneL trivial))) ?_
    have c1 : m1 = 0 ∨ m1 = 1 := by omega
    rcases c1 with rfl | rfl
    · skip
      exact sgE cl39_ok hm hG z4 (mpr (e9_5_0 (p1 : Nat) (p2 : Nat)) ⟨drawF_ok dS q1 d1 rfl rfl, trivial, trivial⟩)
    · skip
      exact sgE cl39_ok hm hG z4 (mpr (e9_5_1 (p1 : Nat) (p2 : Nat)) ⟨drawF_ok dS q1 d1 rfl rfl, trivial, trivial⟩)
  · skip
    refine TE_then (sg cl39_ok hm hG a3 (by kernel_rfl) (mpr (g9_3_6 0 (p1 : Nat)) (doneL ⟨drawF_ok i0 q0 d0 rfl rfl, trivial, trivial⟩))) ?_
    refine TE_then (sg cl39_ok hm hG a4 (by kernel_rfl) (mpr (g9_4_6 (p1 : Nat)) (doneL trivial))) ?_
    have c1 : m1 = 0 ∨ m1 = 1 := by omega
    rcases c1 with rfl | rfl
    · skip
      exact sgE cl39_ok hm hG z4 (mpr (e9_6_0 (p1 : Nat) (p2 : Nat)) ⟨drawF_ok dS q1 d1 rfl rfl, trivial, trivial⟩)
    · skip
      exact sgE cl39_ok hm hG z4 (mpr (e9_6_1 (p1 : Nat) (p2 : Nat)) ⟨drawF_ok dS q1 d1 rfl rfl, trivial, trivial⟩)
  · skip
    refine TE_then (sg cl39_ok hm hG a3 (by kernel_rfl) (mpr (g9_3_7 0 (p1 : Nat)) (doneL ⟨drawF_ok i0 q0 d0 rfl rfl, trivial, trivial⟩))) ?_
    refine TE_then (sg cl39_ok hm hG a4 (by kernel_rfl) (mpr (g9_4_7 (p1 : Nat)) (doneL trivial))) ?_
    have c1 : m1 = 0 ∨ m1 = 1 := by omega
    rcases c1 with rfl | rfl
    · skip
      exact sgE cl39_ok hm hG z4 (mpr (e9_7_0 (p1 : Nat) (p2 : Nat)) ⟨drawF_ok dS q1 d1 rfl rfl, trivial, trivial⟩)
    · skip
      exact sgE cl39_ok hm hG z4 (mpr (e9_7_1 (p1 : Nat) (p2 : Nat)) ⟨drawF_ok dS q1 d1 rfl rfl, trivial, trivial⟩)
  · skip
    refine TE_then (sg cl39_ok hm hG a3 (by kernel_rfl) (mpr (g9_3_8 0 (p1 : Nat)) (doneL ⟨drawF_ok i0 q0 d0 rfl rfl, trivial, trivial⟩))) ?_
    refine TE_then (sg cl39_ok hm hG a4 (by kernel_rfl) (mpr (g9_4_8 (p1 : Nat)) (doneL trivial))) ?_
    have c1 : m1 = 0 ∨ m1 = 1 := by omega
    rcases c1 with rfl | rfl
    · skip
      exact sgE cl39_ok hm hG z4 (mpr (e9_8_0 (p1 : Nat) (p2 : Nat)) ⟨drawF_ok dS q1 d1 rfl rfl, trivial, trivial⟩)
    · skip
      exact sgE cl39_ok hm hG z4 (mpr (e9_8_1 (p1 : Nat) (p2 : Nat)) ⟨drawF_ok dS q1 d1 rfl rfl, trivial, trivial⟩)
  · skip
    refine TE_then (sg cl39_ok hm hG a3 (by kernel_rfl) (mpr (g9_3_9 0 (p1 : Nat)) (doneL ⟨drawF_ok i0 q0 d0 rfl rfl, trivial, trivial⟩))) ?_
    refine TE_then (sg cl39_ok hm hG a4 (by kernel_rfl) (mpr (g9_4_9 (p1 : Nat)) (doneL trivial))) ?_
    have c1 : m1 = 0 ∨ m1 = 1 := by omega
    rcases c1 with rfl | rfl
    · skip
      exact sgE cl39_ok hm hG z4 (mpr (e9_9_0 (p1 : Nat) (p2 : Nat)) ⟨drawF_ok dS q1 d1 rfl rfl, trivial, trivial⟩)
    · skip
      exact sgE cl39_ok hm hG z4 (mpr (e9_9_1 (p1 : Nat) (p2 : Nat)) ⟨drawF_ok dS q1 d1 rfl rfl, trivial, trivial⟩)
  · skip
    refine TE_then (sg cl39_ok hm hG a3 (by kernel_rfl) (mpr (g9_3_10 0 (p1 : Nat)) (doneL ⟨drawF_ok i0 q0 d0 rfl rfl, trivial, trivial⟩))) ?_
    refine TE_then (sg cl39_ok hm hG a4 (by kernel_rfl) (mpr (g9_4_10 (p1 : Nat)) (doneL trivial))) ?_
    have c1 : m1 = 0 ∨ m1 = 1 := by omega
    rcases c1 with rfl | rfl
    · skip
      have u0 : (sR (sR (sR (sR (sR fun9.sc))))) = .seq (sL (sR (sR (sR (sR (sR fun9.sc)))))) (sR (sR (sR (sR (sR (sR fun9.sc)))))) := by kernel_rfl
      obtain ⟨x0, y0, rfl, s0, t0⟩ := z4.sq u0
      have u1 : (sR (sR (sR (sR (sR (sR fun9.sc)))))) = .seq (sL (sR (sR (sR (sR (sR (sR fun9.sc))))))) (sR (sR (sR (sR (sR (sR (sR fun9.sc))))))) := by kernel_rfl
      obtain ⟨x1, y1, rfl, s1, t1⟩ := t0.sq u1
      have u2 : (sR (sR (sR (sR (sR (sR (sR fun9.sc))))))) = .seq (sL (sR (sR (sR (sR (sR (sR (sR fun9.sc)))))))) (sR (sR (sR (sR (sR (sR (sR (sR fun9.sc)))))))) := by kernel_rfl
      obtain ⟨x2, y2, rfl, s2, t2⟩ := t1.sq u2
      have u7 : (sR (sR (sR (sR (sR (sR (sR (sR fun9.sc)))))))) = .seq (sL (sR (sR (sR (sR (sR (sR (sR (sR fun9.sc))))))))) (sR (sR (sR (sR (sR (sR (sR (sR (sR fun9.sc))))))))) := by kernel_rfl
      obtain ⟨x7, y7, rfl, s7, t7⟩ := t2.sq u7
      have u8 : (sL (sR (sR (sR (sR (sR (sR (sR (sR fun9.sc))))))))) = .seq (sL (sL (sR (sR (sR (sR (sR (sR (sR (sR fun9.sc)))))))))) (sR (sL (sR (sR (sR (sR (sR (sR (sR (sR fun9.sc)))))))))) := by kernel_rfl
      obtain ⟨x8, y8, rfl, s8, t8⟩ := s7.sq u8
      have u9 : (sR (sL (sR (sR (sR (sR (sR (sR (sR (sR fun9.sc)))))))))) = .block 0 (sB (sR (sL (sR (sR (sR (sR (sR (sR (sR (sR fun9.sc))))))))))) := by kernel_rfl
      obtain ⟨x9, rfl, s9⟩ := t8.bk u9
      have u10 : (sB (sR (sL (sR (sR (sR (sR (sR (sR (sR (sR fun9.sc))))))))))) = .loop (sB (sB (sR (sL (sR (sR (sR (sR (sR (sR (sR (sR fun9.sc)))))))))))) := by kernel_rfl
      obtain ⟨x10, rfl, s10⟩ := s9.lp u10
      refine TE_then (sg cl39_ok hm hG s0 (by kernel_rfl) (mpr (ha9_10_0 (p1 : Nat) (p2 : Nat)) (doneL ⟨drawF_ok dS q1 d1 rfl rfl, trivial, trivial⟩))) (TE_then (sg cl39_ok hm hG s1 (by kernel_rfl) (mpr (hb9_10_0 (p2 : Nat)) (doneL trivial))) (TE_then (sg cl39_ok hm hG s2 (by kernel_rfl) (mpr (hc9_10_0 (p2 : Nat)) (doneL trivial))) (TE_then (T_then (sg cl39_ok hm hG s8 (by kernel_rfl) (mpr (hd9_10_0 (p2 : Nat)) (doneL trivial))) (T_bl (n := 9 + (40 + 0)) ?_)) (sgE cl39_ok hm hG t7 (mpr (hg9_10_0 (p2 : Nat)) trivial)))))
      exact rd0 cl39_ok hm hG s10 (by kernel_rfl) (mpr (he9_10_0 (p2 : Nat)) (doneL trivial)) (rdE cl39_ok hm hG s10 (by kernel_rfl) (mpr (hf9_10_0 (p2 : Nat)) (doneL trivial)))
    · skip
      have u0 : (sR (sR (sR (sR (sR fun9.sc))))) = .seq (sL (sR (sR (sR (sR (sR fun9.sc)))))) (sR (sR (sR (sR (sR (sR fun9.sc)))))) := by kernel_rfl
      obtain ⟨x0, y0, rfl, s0, t0⟩ := z4.sq u0
      have u1 : (sR (sR (sR (sR (sR (sR fun9.sc)))))) = .seq (sL (sR (sR (sR (sR (sR (sR fun9.sc))))))) (sR (sR (sR (sR (sR (sR (sR fun9.sc))))))) := by kernel_rfl
      obtain ⟨x1, y1, rfl, s1, t1⟩ := t0.sq u1
      have u2 : (sR (sR (sR (sR (sR (sR (sR fun9.sc))))))) = .seq (sL (sR (sR (sR (sR (sR (sR (sR fun9.sc)))))))) (sR (sR (sR (sR (sR (sR (sR (sR fun9.sc)))))))) := by kernel_rfl
      obtain ⟨x2, y2, rfl, s2, t2⟩ := t1.sq u2
      have u7 : (sR (sR (sR (sR (sR (sR (sR (sR fun9.sc)))))))) = .seq (sL (sR (sR (sR (sR (sR (sR (sR (sR fun9.sc))))))))) (sR (sR (sR (sR (sR (sR (sR (sR (sR fun9.sc))))))))) := by kernel_rfl
      obtain ⟨x7, y7, rfl, s7, t7⟩ := t2.sq u7
      have u8 : (sL (sR (sR (sR (sR (sR (sR (sR (sR fun9.sc))))))))) = .seq (sL (sL (sR (sR (sR (sR (sR (sR (sR (sR fun9.sc)))))))))) (sR (sL (sR (sR (sR (sR (sR (sR (sR (sR fun9.sc)))))))))) := by kernel_rfl
      obtain ⟨x8, y8, rfl, s8, t8⟩ := s7.sq u8
      have u9 : (sR (sL (sR (sR (sR (sR (sR (sR (sR (sR fun9.sc)))))))))) = .block 0 (sB (sR (sL (sR (sR (sR (sR (sR (sR (sR (sR fun9.sc))))))))))) := by kernel_rfl
      obtain ⟨x9, rfl, s9⟩ := t8.bk u9
      have u10 : (sB (sR (sL (sR (sR (sR (sR (sR (sR (sR (sR fun9.sc))))))))))) = .loop (sB (sB (sR (sL (sR (sR (sR (sR (sR (sR (sR (sR fun9.sc)))))))))))) := by kernel_rfl
      obtain ⟨x10, rfl, s10⟩ := s9.lp u10
      refine TE_then (sg cl39_ok hm hG s0 (by kernel_rfl) (mpr (ha9_10_1 (p1 : Nat) (p2 : Nat)) (doneL ⟨drawF_ok dS q1 d1 rfl rfl, trivial, trivial⟩))) (TE_then (sg cl39_ok hm hG s1 (by kernel_rfl) (mpr (hb9_10_1 (p2 : Nat)) (doneL trivial))) (TE_then (sg cl39_ok hm hG s2 (by kernel_rfl) (mpr (hc9_10_1 (p2 : Nat)) (doneL trivial))) (TE_then (T_then (sg cl39_ok hm hG s8 (by kernel_rfl) (mpr (hd9_10_1 (p2 : Nat)) (doneL trivial))) (T_bl (n := 9 + (40 + 0)) ?_)) (sgE cl39_ok hm hG t7 (mpr (hg9_10_1 (p2 : Nat)) trivial)))))
      exact rd0 cl39_ok hm hG s10 (by kernel_rfl) (mpr (he9_10_1 (p2 : Nat)) (doneL trivial)) (rdE cl39_ok hm hG s10 (by kernel_rfl) (mpr (hf9_10_1 (p2 : Nat)) (doneL trivial)))
end Go.M
