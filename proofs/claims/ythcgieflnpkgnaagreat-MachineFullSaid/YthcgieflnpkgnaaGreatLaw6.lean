/-
  MachineFull gives back true at every input.
  The numbers are those of bytes.
-/
import Derived.Test.YthcgieflnpkgnaaGreatGa6
import Derived.Test.YthcgieflnpkgnaaGreatGb60
import Derived.Test.YthcgieflnpkgnaaGreatGb61
import Derived.Test.YthcgieflnpkgnaaGreatGb62
import Derived.Test.YthcgieflnpkgnaaGreatGb63
import Derived.Test.YthcgieflnpkgnaaGreatGb64
import Derived.Test.YthcgieflnpkgnaaGreatGb65
import Derived.Test.YthcgieflnpkgnaaGreatGb66
import Derived.Test.YthcgieflnpkgnaaGreatGb67
import Derived.Test.YthcgieflnpkgnaaGreatGb68
import Derived.Test.YthcgieflnpkgnaaGreatGb69
import Derived.Test.YthcgieflnpkgnaaGreatGb610
import Derived.Test.YthcgieflnpkgnaaGreatGb611
import Derived.Test.YthcgieflnpkgnaaGreatGb612
import Derived.Test.YthcgieflnpkgnaaGreatGb613
import Derived.Test.YthcgieflnpkgnaaGreatGb614
import Derived.Test.YthcgieflnpkgnaaGreatGb615
import Derived.Test.YthcgieflnpkgnaaGreatGb616
import Derived.Test.YthcgieflnpkgnaaGreatGc6
set_option linter.unusedVariables false
set_option maxRecDepth 100000
namespace Go.M
open Go Go.Proofs
theorem mpr {p q : Prop} (h : p = q) (hq : q) : p := h ▸ hq
theorem done0 {S : Tst} : allP ((S.fr = S.fr) :: (S.bl = S.bl) :: []) := ⟨rfl, rfl, trivial⟩
theorem doneL {S : Tst} {l : List Prop} (h : allP l) : allP ((S.fr = S.fr) :: (S.bl = S.bl) :: l) := ⟨rfl, rfl, h⟩
theorem fn6 (a : Int) (h0 : 0 ≤ a) (h1 : a < 256) (w : World) : Calls Tryz.prog 6 #[.int .u8 a] w fun e w' => e = .returned (.bool true) ∧ Go.RowKit.Below w.heap.size w w' := by
  have ha : den Vz ⟨13, [], .int .u8 a⟩ (.int .u8 a) := (den12 (x := ⟨13, [], .int .u8 a⟩) (.inr rfl)).2 ⟨rfl, rfl⟩
  have hv : denL Vz [⟨13, [], .int .u8 a⟩] #[Value.int .u8 a].toList := denL_cons.2 ⟨_, [], rfl, ha, denL_nil.2 rfl⟩
  have h3 : a % 3 = 0 ∨ a % 3 = 1 ∨ a % 3 = 2 := by omega
  have hE0 : okF fun6 = true := by kernel_rfl
  have e1 : fun6.sc = .seq (sL fun6.sc) (sR fun6.sc) := by kernel_rfl
  have e2 : sR fun6.sc = .seq (sL (sR fun6.sc)) (sR (sR fun6.sc)) := by kernel_rfl
  have e3 : sR (sR fun6.sc) = .seq (sL (sR (sR fun6.sc))) (sR (sR (sR fun6.sc))) := by kernel_rfl
  have e4 : sR (sR (sR fun6.sc)) = .seq (sL (sR (sR (sR fun6.sc)))) (sR (sR (sR (sR fun6.sc)))) := by kernel_rfl
  have e5 : sL (sR (sR (sR fun6.sc))) = .seq (sL (sL (sR (sR (sR fun6.sc))))) (sR (sL (sR (sR (sR fun6.sc))))) := by kernel_rfl
  have e6 : sR (sL (sR (sR (sR fun6.sc)))) = .block 0 (sB (sR (sL (sR (sR (sR fun6.sc)))))) := by kernel_rfl
  have e7 : sB (sR (sL (sR (sR (sR fun6.sc))))) = .loop (sB (sB (sR (sL (sR (sR (sR fun6.sc))))))) := by kernel_rfl
  have fin : ∀ r, a % 3 = r → ∀ (St Sf : Tst) (m : Nat), (∀ nt c, Pt Tryz.prog fun6 nt c (sB (sB (sR (sL (sR (sR (sR fun6.sc))))))) → Tryz.prog.follows .mixedOrders = true → fun6.G.length ≤ 64 → TR Tryz.prog cx6 nt c (S21 a) (At1 2 St) m) →
      (∀ nt c, Pt Tryz.prog fun6 nt c (sR (sR (sR (sR fun6.sc)))) → Tryz.prog.follows .mixedOrders = true → fun6.G.length ≤ 64 → T Tryz.prog cx6 nt c St (At1 1 Sf)) → holdsR (finR cx6 fun6.res Sf) →
      Calls Tryz.prog 6 #[.int .u8 a] w fun e w' => e = .returned (.bool true) ∧ Go.RowKit.Below w.heap.size w w' := fun r hr St Sf m ht hf hfin => by
    refine law_T cl25_ok ok6 hE0 (xs := [⟨13, [], .int .u8 a⟩]) rfl (Q := At1 1 Sf) (fun c nt hp hm hG => ?_) (fun e S h => ⟨.inr (h.1.ne (by omega)).ret, h.2 ▸ hfin⟩) hv w trivial
    obtain ⟨c1, d1, rfl, p1, q1⟩ := hp.sq e1
    obtain ⟨c2, d2, rfl, p2, q2⟩ := q1.sq e2
    obtain ⟨c3, d3, rfl, p3, q3⟩ := q2.sq e3
    obtain ⟨c4, d4, rfl, p4, q4⟩ := q3.sq e4
    obtain ⟨c5, d5, rfl, p5, q5⟩ := p4.sq e5
    obtain ⟨c6, rfl, p6⟩ := q5.bk e6
    obtain ⟨c7, rfl, p7⟩ := p6.lp e7
    refine T_then (sg cl25_ok hm hG p1 (by kernel_rfl) (mpr (g6_0 a r) done0)) (T_then (sg cl25_ok hm hG p2 (by kernel_rfl) (mpr (g6_1 a r) done0)) (T_then (sg cl25_ok hm hG p3 (by kernel_rfl) (mpr (g6_2 a r) done0)) (T_then (T_then (sg cl25_ok hm hG p5 (by kernel_rfl) (mpr (g6_3 a r) done0)) (T_bl (n := 49 + (20 + (15 + (13 + (11 + (11 + (9 + (9 + (9 + (7 + (8 + (7 + (7 + (6 + (7 + (6 + (6 + (m)))))))))))))))))) ?_)) (hf nt _ q4 hm hG))))
    refine rd0 cl25_ok hm hG p7 (by kernel_rfl) (mpr (g6_4 a r) (doneL (fs6_ok h0 hr 49 1 [] (by omega) trivial))) ?_
    refine rd0 cl25_ok hm hG p7 (by kernel_rfl) (mpr (g6_5 a r) (doneL (fs6_ok h0 hr 20 50 [] (by omega) trivial))) ?_
    refine rd0 cl25_ok hm hG p7 (by kernel_rfl) (mpr (g6_6 a r) (doneL (fs6_ok h0 hr 15 70 [] (by omega) trivial))) ?_
    refine rd0 cl25_ok hm hG p7 (by kernel_rfl) (mpr (g6_7 a r) (doneL (fs6_ok h0 hr 13 85 [] (by omega) trivial))) ?_
    refine rd0 cl25_ok hm hG p7 (by kernel_rfl) (mpr (g6_8 a r) (doneL (fs6_ok h0 hr 11 98 [] (by omega) trivial))) ?_
    refine rd0 cl25_ok hm hG p7 (by kernel_rfl) (mpr (g6_9 a r) (doneL (fs6_ok h0 hr 11 109 [] (by omega) trivial))) ?_
    refine rd0 cl25_ok hm hG p7 (by kernel_rfl) (mpr (g6_10 a r) (doneL (fs6_ok h0 hr 9 120 [] (by omega) trivial))) ?_
    refine rd0 cl25_ok hm hG p7 (by kernel_rfl) (mpr (g6_11 a r) (doneL (fs6_ok h0 hr 9 129 [] (by omega) trivial))) ?_
    refine rd0 cl25_ok hm hG p7 (by kernel_rfl) (mpr (g6_12 a r) (doneL (fs6_ok h0 hr 9 138 [] (by omega) trivial))) ?_
    refine rd0 cl25_ok hm hG p7 (by kernel_rfl) (mpr (g6_13 a r) (doneL (fs6_ok h0 hr 7 147 [] (by omega) trivial))) ?_
    refine rd0 cl25_ok hm hG p7 (by kernel_rfl) (mpr (g6_14 a r) (doneL (fs6_ok h0 hr 8 154 [] (by omega) trivial))) ?_
    refine rd0 cl25_ok hm hG p7 (by kernel_rfl) (mpr (g6_15 a r) (doneL (fs6_ok h0 hr 7 162 [] (by omega) trivial))) ?_
    refine rd0 cl25_ok hm hG p7 (by kernel_rfl) (mpr (g6_16 a r) (doneL (fs6_ok h0 hr 7 169 [] (by omega) trivial))) ?_
    refine rd0 cl25_ok hm hG p7 (by kernel_rfl) (mpr (g6_17 a r) (doneL (fs6_ok h0 hr 6 176 [] (by omega) trivial))) ?_
    refine rd0 cl25_ok hm hG p7 (by kernel_rfl) (mpr (g6_18 a r) (doneL (fs6_ok h0 hr 7 182 [] (by omega) trivial))) ?_
    refine rd0 cl25_ok hm hG p7 (by kernel_rfl) (mpr (g6_19 a r) (doneL (fs6_ok h0 hr 6 189 [] (by omega) trivial))) ?_
    refine rd0 cl25_ok hm hG p7 (by kernel_rfl) (mpr (g6_20 a r) (doneL (fs6_ok h0 hr 6 195 [] (by omega) trivial))) ?_
    exact ht nt _ p7 hm hG
  rcases h3 with h | h | h
  · exact fin 0 h (S22 a) (S23 a) (1 + 0) (fun nt c p7 hm hG => rdE cl25_ok hm hG p7 (by kernel_rfl) (mpr (g6_t0 a 0) (doneL (fc6_ok h0 h (lq_F h (by omega)) trivial))))
      (fun nt c q4 hm hG => sg cl25_ok hm hG q4 (by kernel_rfl) (mpr (g6_f0 a 0) done0)) (mpr (g6_e0 a) trivial)
  · exact fin 1 h (S24 a) (S25 a) (2 + 0) (fun nt c p7 hm hG => rdE cl25_ok hm hG p7 (by kernel_rfl) (mpr (g6_t1 a 1) (doneL (fc6_ok h0 h (lq_F h (by omega)) (fc6_ok h0 h (lq_T h (by omega)) trivial)))))
      (fun nt c q4 hm hG => sg cl25_ok hm hG q4 (by kernel_rfl) (mpr (g6_f1 a 1) done0)) (mpr (g6_e1 a) trivial)
  · exact fin 2 h (S26 a) (S27 a) (3 + 0) (fun nt c p7 hm hG => rdE cl25_ok hm hG p7 (by kernel_rfl) (mpr (g6_t2 a 2) (doneL (fc6_ok h0 h (lq_F h (by omega)) (fc6_ok h0 h (lq_T h (by omega)) (fc6_ok h0 h (lq_T h (by omega)) trivial))))))
      (fun nt c q4 hm hG => sg cl25_ok hm hG q4 (by kernel_rfl) (mpr (g6_f2 a 2) done0)) (mpr (g6_e2 a) trivial)
end Go.M
