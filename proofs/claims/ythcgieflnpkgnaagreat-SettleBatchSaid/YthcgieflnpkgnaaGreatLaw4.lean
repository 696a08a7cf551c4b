/-
  SettleBatch gives back true at every input.
  The numbers are those of bytes.
-/
import Derived.Test.YthcgieflnpkgnaaGreatGa4
import Derived.Test.YthcgieflnpkgnaaGreatGl400
import Derived.Test.YthcgieflnpkgnaaGreatGl401
import Derived.Test.YthcgieflnpkgnaaGreatGl402
import Derived.Test.YthcgieflnpkgnaaGreatGl403
import Derived.Test.YthcgieflnpkgnaaGreatGl404
import Derived.Test.YthcgieflnpkgnaaGreatGl405
import Derived.Test.YthcgieflnpkgnaaGreatGl406
import Derived.Test.YthcgieflnpkgnaaGreatGl407
import Derived.Test.YthcgieflnpkgnaaGreatGl410
import Derived.Test.YthcgieflnpkgnaaGreatGl411
import Derived.Test.YthcgieflnpkgnaaGreatGl412
import Derived.Test.YthcgieflnpkgnaaGreatGl413
import Derived.Test.YthcgieflnpkgnaaGreatGl414
import Derived.Test.YthcgieflnpkgnaaGreatGl415
import Derived.Test.YthcgieflnpkgnaaGreatGl416
import Derived.Test.YthcgieflnpkgnaaGreatGl417
import Derived.Test.YthcgieflnpkgnaaGreatGl420
import Derived.Test.YthcgieflnpkgnaaGreatGl421
import Derived.Test.YthcgieflnpkgnaaGreatGl422
import Derived.Test.YthcgieflnpkgnaaGreatGl423
import Derived.Test.YthcgieflnpkgnaaGreatGl424
import Derived.Test.YthcgieflnpkgnaaGreatGl425
import Derived.Test.YthcgieflnpkgnaaGreatGl426
import Derived.Test.YthcgieflnpkgnaaGreatGl427
set_option linter.unusedVariables false
set_option maxRecDepth 100000
namespace Go.M
open Go Go.Proofs
theorem mpr {p q : Prop} (h : p = q) (hq : q) : p := h ▸ hq
theorem doneL {S : Tst} {l : List Prop} (h : allP l) : allP ((S.fr = S.fr) :: (S.bl = S.bl) :: l) := ⟨rfl, rfl, h⟩
theorem l4_0 (b c : Int) : ∀ t0 t1 t2 t3 t4 t5 : Bool, holdsR (segE cx4 fun4.res (sR (sR (sR (sR (sR fun4.sc))))) (U5 b c) (an4 b 0 [t0, t1, t2, t3, t4, t5] ++ an4 b 0 [t0, t1, t2, t3, t4, t5])) = allP (fs4 b 0 [t0, t1, t2, t3, t4, t5] (fs4 b 0 [t0, t1, t2, t3, t4, t5] []))
  | false, false, false, false, false, false => l4_0_0 b c
  | true, false, false, false, false, false => l4_0_1 b c
  | false, true, false, false, false, false => l4_0_2 b c
  | true, true, false, false, false, false => l4_0_3 b c
  | false, false, true, false, false, false => l4_0_4 b c
  | true, false, true, false, false, false => l4_0_5 b c
  | false, true, true, false, false, false => l4_0_6 b c
  | true, true, true, false, false, false => l4_0_7 b c
  | false, false, false, true, false, false => l4_0_8 b c
  | true, false, false, true, false, false => l4_0_9 b c
  | false, true, false, true, false, false => l4_0_10 b c
  | true, true, false, true, false, false => l4_0_11 b c
  | false, false, true, true, false, false => l4_0_12 b c
  | true, false, true, true, false, false => l4_0_13 b c
  | false, true, true, true, false, false => l4_0_14 b c
  | true, true, true, true, false, false => l4_0_15 b c
  | false, false, false, false, true, false => l4_0_16 b c
  | true, false, false, false, true, false => l4_0_17 b c
  | false, true, false, false, true, false => l4_0_18 b c
  | true, true, false, false, true, false => l4_0_19 b c
  | false, false, true, false, true, false => l4_0_20 b c
  | true, false, true, false, true, false => l4_0_21 b c
  | false, true, true, false, true, false => l4_0_22 b c
  | true, true, true, false, true, false => l4_0_23 b c
  | false, false, false, true, true, false => l4_0_24 b c
  | true, false, false, true, true, false => l4_0_25 b c
  | false, true, false, true, true, false => l4_0_26 b c
  | true, true, false, true, true, false => l4_0_27 b c
  | false, false, true, true, true, false => l4_0_28 b c
  | true, false, true, true, true, false => l4_0_29 b c
  | false, true, true, true, true, false => l4_0_30 b c
  | true, true, true, true, true, false => l4_0_31 b c
  | false, false, false, false, false, true => l4_0_32 b c
  | true, false, false, false, false, true => l4_0_33 b c
  | false, true, false, false, false, true => l4_0_34 b c
  | true, true, false, false, false, true => l4_0_35 b c
  | false, false, true, false, false, true => l4_0_36 b c
  | true, false, true, false, false, true => l4_0_37 b c
  | false, true, true, false, false, true => l4_0_38 b c
  | true, true, true, false, false, true => l4_0_39 b c
  | false, false, false, true, false, true => l4_0_40 b c
  | true, false, false, true, false, true => l4_0_41 b c
  | false, true, false, true, false, true => l4_0_42 b c
  | true, true, false, true, false, true => l4_0_43 b c
  | false, false, true, true, false, true => l4_0_44 b c
  | true, false, true, true, false, true => l4_0_45 b c
  | false, true, true, true, false, true => l4_0_46 b c
  | true, true, true, true, false, true => l4_0_47 b c
  | false, false, false, false, true, true => l4_0_48 b c
  | true, false, false, false, true, true => l4_0_49 b c
  | false, true, false, false, true, true => l4_0_50 b c
  | true, true, false, false, true, true => l4_0_51 b c
  | false, false, true, false, true, true => l4_0_52 b c
  | true, false, true, false, true, true => l4_0_53 b c
  | false, true, true, false, true, true => l4_0_54 b c
  | true, true, true, false, true, true => l4_0_55 b c
  | false, false, false, true, true, true => l4_0_56 b c
  | true, false, false, true, true, true => l4_0_57 b c
  | false, true, false, true, true, true => l4_0_58 b c
  | true, true, false, true, true, true => l4_0_59 b c
  | false, false, true, true, true, true => l4_0_60 b c
  | true, false, true, true, true, true => l4_0_61 b c
  | false, true, true, true, true, true => l4_0_62 b c
  | true, true, true, true, true, true => l4_0_63 b c
theorem l4_1 (b c : Int) : ∀ t0 t1 t2 t3 t4 t5 : Bool, holdsR (segE cx4 fun4.res (sR (sR (sR (sR (sR fun4.sc))))) (U6 b c) (an4 b 0 [t0, t1, t2, t3, t4, t5] ++ an4 b 0 [t0, t1, t2, t3, t4, t5])) = allP (fs4 b 0 [t0, t1, t2, t3, t4, t5] (fs4 b 0 [t0, t1, t2, t3, t4, t5] []))
  | false, false, false, false, false, false => l4_1_0 b c
  | true, false, false, false, false, false => l4_1_1 b c
  | false, true, false, false, false, false => l4_1_2 b c
  | true, true, false, false, false, false => l4_1_3 b c
  | false, false, true, false, false, false => l4_1_4 b c
  | true, false, true, false, false, false => l4_1_5 b c
  | false, true, true, false, false, false => l4_1_6 b c
  | true, true, true, false, false, false => l4_1_7 b c
  | false, false, false, true, false, false => l4_1_8 b c
  | true, false, false, true, false, false => l4_1_9 b c
  | false, true, false, true, false, false => l4_1_10 b c
  | true, true, false, true, false, false => l4_1_11 b c
  | false, false, true, true, false, false => l4_1_12 b c
  | true, false, true, true, false, false => l4_1_13 b c
  | false, true, true, true, false, false => l4_1_14 b c
  | true, true, true, true, false, false => l4_1_15 b c
  | false, false, false, false, true, false => l4_1_16 b c
  | true, false, false, false, true, false => l4_1_17 b c
  | false, true, false, false, true, false => l4_1_18 b c
  | true, true, false, false, true, false => l4_1_19 b c
  | false, false, true, false, true, false => l4_1_20 b c
  | true, false, true, false, true, false => l4_1_21 b c
  | false, true, true, false, true, false => l4_1_22 b c
  | true, true, true, false, true, false => l4_1_23 b c
  | false, false, false, true, true, false => l4_1_24 b c
  | true, false, false, true, true, false => l4_1_25 b c
  | false, true, false, true, true, false => l4_1_26 b c
  | true, true, false, true, true, false => l4_1_27 b c
  | false, false, true, true, true, false => l4_1_28 b c
  | true, false, true, true, true, false => l4_1_29 b c
  | false, true, true, true, true, false => l4_1_30 b c
  | true, true, true, true, true, false => l4_1_31 b c
  | false, false, false, false, false, true => l4_1_32 b c
  | true, false, false, false, false, true => l4_1_33 b c
  | false, true, false, false, false, true => l4_1_34 b c
  | true, true, false, false, false, true => l4_1_35 b c
  | false, false, true, false, false, true => l4_1_36 b c
  | true, false, true, false, false, true => l4_1_37 b c
  | false, true, true, false, false, true => l4_1_38 b c
  | true, true, true, false, false, true => l4_1_39 b c
  | false, false, false, true, false, true => l4_1_40 b c
  | true, false, false, true, false, true => l4_1_41 b c
  | false, true, false, true, false, true => l4_1_42 b c
  | true, true, false, true, false, true => l4_1_43 b c
  | false, false, true, true, false, true => l4_1_44 b c
  | true, false, true, true, false, true => l4_1_45 b c
  | false, true, true, true, false, true => l4_1_46 b c
  | true, true, true, true, false, true => l4_1_47 b c
  | false, false, false, false, true, true => l4_1_48 b c
  | true, false, false, false, true, true => l4_1_49 b c
  | false, true, false, false, true, true => l4_1_50 b c
  | true, true, false, false, true, true => l4_1_51 b c
  | false, false, true, false, true, true => l4_1_52 b c
  | true, false, true, false, true, true => l4_1_53 b c
  | false, true, true, false, true, true => l4_1_54 b c
  | true, true, true, false, true, true => l4_1_55 b c
  | false, false, false, true, true, true => l4_1_56 b c
  | true, false, false, true, true, true => l4_1_57 b c
  | false, true, false, true, true, true => l4_1_58 b c
  | true, true, false, true, true, true => l4_1_59 b c
  | false, false, true, true, true, true => l4_1_60 b c
  | true, false, true, true, true, true => l4_1_61 b c
  | false, true, true, true, true, true => l4_1_62 b c
  | true, true, true, true, true, true => l4_1_63 b c
theorem l4_2 (b c : Int) : ∀ t0 t1 t2 t3 t4 t5 : Bool, holdsR (segE cx4 fun4.res (sR (sR (sR (sR (sR fun4.sc))))) (U7 b c) (an4 b 0 [t0, t1, t2, t3, t4, t5] ++ an4 b 0 [t0, t1, t2, t3, t4, t5])) = allP (fs4 b 0 [t0, t1, t2, t3, t4, t5] (fs4 b 0 [t0, t1, t2, t3, t4, t5] []))
  | false, false, false, false, false, false => l4_2_0 b c
  | true, false, false, false, false, false => l4_2_1 b c
  | false, true, false, false, false, false => l4_2_2 b c
  | true, true, false, false, false, false => l4_2_3 b c
  | false, false, true, false, false, false => l4_2_4 b c
  | true, false, true, false, false, false => l4_2_5 b c
  | false, true, true, false, false, false => l4_2_6 b c
  | true, true, true, false, false, false => l4_2_7 b c
  | false, false, false, true, false, false => l4_2_8 b c
  | true, false, false, true, false, false => l4_2_9 b c
  | false, true, false, true, false, false => l4_2_10 b c
  | true, true, false, true, false, false => l4_2_11 b c
  | false, false, true, true, false, false => l4_2_12 b c
  | true, false, true, true, false, false => l4_2_13 b c
  | false, true, true, true, false, false => l4_2_14 b c
  | true, true, true, true, false, false => l4_2_15 b c
  | false, false, false, false, true, false => l4_2_16 b c
  | true, false, false, false, true, false => l4_2_17 b c
  | false, true, false, false, true, false => l4_2_18 b c
  | true, true, false, false, true, false => l4_2_19 b c
  | false, false, true, false, true, false => l4_2_20 b c
  | true, false, true, false, true, false => l4_2_21 b c
  | false, true, true, false, true, false => l4_2_22 b c
  | true, true, true, false, true, false => l4_2_23 b c
  | false, false, false, true, true, false => l4_2_24 b c
  | true, false, false, true, true, false => l4_2_25 b c
  | false, true, false, true, true, false => l4_2_26 b c
  | true, true, false, true, true, false => l4_2_27 b c
  | false, false, true, true, true, false => l4_2_28 b c
  | true, false, true, true, true, false => l4_2_29 b c
  | false, true, true, true, true, false => l4_2_30 b c
  | true, true, true, true, true, false => l4_2_31 b c
  | false, false, false, false, false, true => l4_2_32 b c
  | true, false, false, false, false, true => l4_2_33 b c
  | false, true, false, false, false, true => l4_2_34 b c
  | true, true, false, false, false, true => l4_2_35 b c
  | false, false, true, false, false, true => l4_2_36 b c
  | true, false, true, false, false, true => l4_2_37 b c
  | false, true, true, false, false, true => l4_2_38 b c
  | true, true, true, false, false, true => l4_2_39 b c
  | false, false, false, true, false, true => l4_2_40 b c
  | true, false, false, true, false, true => l4_2_41 b c
  | false, true, false, true, false, true => l4_2_42 b c
  | true, true, false, true, false, true => l4_2_43 b c
  | false, false, true, true, false, true => l4_2_44 b c
  | true, false, true, true, false, true => l4_2_45 b c
  | false, true, true, true, false, true => l4_2_46 b c
  | true, true, true, true, false, true => l4_2_47 b c
  | false, false, false, false, true, true => l4_2_48 b c
  | true, false, false, false, true, true => l4_2_49 b c
  | false, true, false, false, true, true => l4_2_50 b c
  | true, true, false, false, true, true => l4_2_51 b c
  | false, false, true, false, true, true => l4_2_52 b c
  | true, false, true, false, true, true => l4_2_53 b c
  | false, true, true, false, true, true => l4_2_54 b c
  | true, true, true, false, true, true => l4_2_55 b c
  | false, false, false, true, true, true => l4_2_56 b c
  | true, false, false, true, true, true => l4_2_57 b c
  | false, true, false, true, true, true => l4_2_58 b c
  | true, true, false, true, true, true => l4_2_59 b c
  | false, false, true, true, true, true => l4_2_60 b c
  | true, false, true, true, true, true => l4_2_61 b c
  | false, true, true, true, true, true => l4_2_62 b c
  | true, true, true, true, true, true => l4_2_63 b c
theorem fn4 (b c : Int) (h0 : 0 ≤ b) (hb : b < 256) (hc : 0 ≤ c) (hc1 : c < 256) (w : World) : Calls Tryz.prog 4 #[.int .u8 b, .int .u8 c] w fun e w' => e = .returned (.bool true) ∧ Go.RowKit.Below w.heap.size w w' := by
  have hbs : den Vz ⟨13, [], .int .u8 b⟩ (.int .u8 b) := (den12 (x := ⟨13, [], .int .u8 b⟩) (.inr rfl)).2 ⟨rfl, rfl⟩
  have hcs : den Vz ⟨13, [], .int .u8 c⟩ (.int .u8 c) := (den12 (x := ⟨13, [], .int .u8 c⟩) (.inr rfl)).2 ⟨rfl, rfl⟩
  have hv : denL Vz [⟨13, [], .int .u8 b⟩, ⟨13, [], .int .u8 c⟩] #[Value.int .u8 b, .int .u8 c].toList := denL_cons.2 ⟨_, _, rfl, hbs, denL_cons.2 ⟨_, [], rfl, hcs, denL_nil.2 rfl⟩⟩
  have hE0 : okF fun4 = true := by kernel_rfl
  have e1 : fun4.sc = .seq (sL fun4.sc) (sR fun4.sc) := by kernel_rfl
  have e2 : sR fun4.sc = .seq (sL (sR fun4.sc)) (sR (sR fun4.sc)) := by kernel_rfl
  have e3 : sR (sR fun4.sc) = .seq (sL (sR (sR fun4.sc))) (sR (sR (sR fun4.sc))) := by kernel_rfl
  have e4 : sR (sR (sR fun4.sc)) = .seq (sL (sR (sR (sR fun4.sc)))) (sR (sR (sR (sR fun4.sc)))) := by kernel_rfl
  have e5 : sR (sR (sR (sR fun4.sc))) = .seq (sL (sR (sR (sR (sR fun4.sc))))) (sR (sR (sR (sR (sR fun4.sc))))) := by kernel_rfl
  let ts : List Bool := [decide (b / 2 ^ 0 % 2 = 1), decide (b / 2 ^ 1 % 2 = 1), decide (b / 2 ^ 2 % 2 = 1), decide (b / 2 ^ 3 % 2 = 1), decide (b / 2 ^ 4 % 2 = 1), decide (b / 2 ^ 5 % 2 = 1)]
  have hts : ∀ i t, ts[i]? = some t → t = decide (b / 2 ^ (0 + i) % 2 = 1) := fun i t hi => by
    match i, hi with
    | 0, hi => simpa [ts] using hi.symm
    | 1, hi => simpa [ts] using hi.symm
    | 2, hi => simpa [ts] using hi.symm
    | 3, hi => simpa [ts] using hi.symm
    | 4, hi => simpa [ts] using hi.symm
    | 5, hi => simpa [ts] using hi.symm
    | i + 6, hi => simp [ts] at hi
  have hfs : allP (fs4 b 0 ts (fs4 b 0 ts [])) := fs4_ok h0 hb ts 0 _ (by simp [ts]) hts (fs4_ok h0 hb ts 0 _ (by simp [ts]) hts trivial)
  refine law_TE cl17_ok ok4 hE0 (xs := [⟨13, [], .int .u8 b⟩, ⟨13, [], .int .u8 c⟩]) rfl (fun cc nt hp hm hG => ?_) hv w trivial
  obtain ⟨c1, d1, rfl, p1, q1⟩ := hp.sq e1
  obtain ⟨c2, d2, rfl, p2, q2⟩ := q1.sq e2
  obtain ⟨c3, d3, rfl, p3, q3⟩ := q2.sq e3
  obtain ⟨c4, d4, rfl, p4, q4⟩ := q3.sq e4
  obtain ⟨c5, d5, rfl, p5, q5⟩ := q4.sq e5
  refine TE_then (sg cl17_ok hm hG p1 (by kernel_rfl) (mpr (g4_0 b c) (doneL trivial))) (TE_then (sg cl17_ok hm hG p2 (by kernel_rfl) (mpr (g4_1 b c) (doneL trivial))) (TE_then (sg cl17_ok hm hG p3 (by kernel_rfl) (mpr (g4_2 b c) (doneL trivial))) (TE_then (sg cl17_ok hm hG p4 (by kernel_rfl) (mpr (g4_3 b c) (doneL trivial))) ?_)))
  have h3 : c % 3 = 0 ∨ c % 3 = 1 ∨ c % 3 = 2 := by omega
  rcases h3 with h | h | h
  · exact TE_then (sg cl17_ok hm hG p5 (by kernel_rfl) (mpr (g4_k0 b c) (doneL ⟨f_rem 3 1540 u3 (by decide) hc (by exact h) (dN8 (m := 0) rfl), trivial⟩))) (sgE cl17_ok hm hG q5 (mpr (l4_0 b c _ _ _ _ _ _) hfs))
  · exact TE_then (sg cl17_ok hm hG p5 (by kernel_rfl) (mpr (g4_k1 b c) (doneL ⟨f_rem 3 1540 u3 (by decide) hc (by exact h) (dN8 (m := 1) rfl), trivial⟩))) (sgE cl17_ok hm hG q5 (mpr (l4_1 b c _ _ _ _ _ _) hfs))
  · exact TE_then (sg cl17_ok hm hG p5 (by kernel_rfl) (mpr (g4_k2 b c) (doneL ⟨f_rem 3 1540 u3 (by decide) hc (by exact h) (dN8 (m := 2) rfl), trivial⟩))) (sgE cl17_ok hm hG q5 (mpr (l4_2 b c _ _ _ _ _ _) hfs))
end Go.M
