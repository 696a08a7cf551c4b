/-
  ReceiveOrder gives back true at every input.
  The numbers are those of bytes.
-/
import Derived.Test.YtgnhijkjlebcmaaGreatGs6y0
import Derived.Test.YtgnhijkjlebcmaaGreatGs6y1
import Derived.Test.YtgnhijkjlebcmaaGreatGs6y2
import Derived.Test.YtgnhijkjlebcmaaGreatGs6y3
import Derived.Test.YtgnhijkjlebcmaaGreatGs6y4
import Derived.Test.YtgnhijkjlebcmaaGreatGs6y5
import Derived.Test.YtgnhijkjlebcmaaGreatGs6y6
import Derived.Test.YtgnhijkjlebcmaaGreatGs6y7
import Derived.Test.YtgnhijkjlebcmaaGreatGs6y8
import Derived.Test.YtgnhijkjlebcmaaGreatGs6y9
import Derived.Test.YtgnhijkjlebcmaaGreatGs6y10
import Derived.Test.YtgnhijkjlebcmaaGreatGs6y11
import Derived.Test.YtgnhijkjlebcmaaGreatGs6y12
import Derived.Test.YtgnhijkjlebcmaaGreatGs6y13
import Derived.Test.YtgnhijkjlebcmaaGreatGs6y14
import Derived.KernelRfl
set_option linter.unusedVariables false
set_option linter.unusedSectionVars false
set_option maxRecDepth 100000
namespace Go.M
open Go Go.Proofs
theorem wk2 {x0 x1 x2 x3 x4 x5 x6 x8 x9 x10 x12 x13 x14 x15 x16 : X} (k s : Nat) : Wks [x0, x1, x2, x3, x4, x5, x6, ⟨32 * k, [], oZ⟩, x8, x9, x10, ⟨32 * s, [], oZ⟩, x12, x13, x14, x15, x16] [x0, x1, x2, x3, x4, x5, x6, SI ((k : Nat) : Int), x8, x9, x10, SI ((s : Nat) : Int), x12, x13, x14, x15, x16] := (.same (.same (.same (.same (.same (.same (.same (.cons (wk_dv (dN rfl) rfl (by simp; omega)) (.same (.same (.same (.cons (wk_dv (dN rfl) rfl (by simp; omega)) (.same (.same (.same (.same (.same .nil)))))))))))))))))
theorem wk3 {x0 x1 x2 x3 x4 x6 x8 x9 x10 x12 x13 x14 x15 x16 : X} (i k s : Nat) : Wks [x0, x1, x2, x3, x4, ⟨32 * i, [], oZ⟩, x6, ⟨32 * k, [], oZ⟩, x8, x9, x10, ⟨32 * s, [], oZ⟩, x12, x13, x14, x15, x16] [x0, x1, x2, x3, x4, SI ((i : Nat) : Int), x6, SI ((k : Nat) : Int), x8, x9, x10, SI ((s : Nat) : Int), x12, x13, x14, x15, x16] := (.same (.same (.same (.same (.same (.cons (wk_dv (dN rfl) rfl (by simp; omega)) (.same (.cons (wk_dv (dN rfl) rfl (by simp; omega)) (.same (.same (.same (.cons (wk_dv (dN rfl) rfl (by simp; omega)) (.same (.same (.same (.same (.same .nil)))))))))))))))))
theorem wkc {m1 : Nat} {o o1 : Value} {x1 x2 x3 : X} {l m : List X} (c : Nat) : WksB (⟨130, ⟨m1, [⟨32 * c, [], oZ⟩, x1, x2, x3], o1⟩ :: l, o⟩ :: m) (⟨130, ⟨m1, [SI (c : Int), x1, x2, x3], o1⟩ :: l, o⟩ :: m) := .blk rfl (.row (.cons (wk_dv (dN rfl) rfl (by simp; omega)) (Wks.refl _)) (RW.refl _)) (WksB.refl _)
section
variable {a m : Int} {nt : Nat} {cc : Code}
theorem rdR (hm : Tryz.prog.follows .mixedOrders = true) (hG : fun6.G.length ≤ 64) (hp : Pt Tryz.prog fun6 nt cc pB) {S S' : Tst} {q : List X} {L D : List Nat} {l : List Prop} {Q : Exit → Tst → Prop} {n : Nat} (hn : S'.n = L.length) (h : rr (segR cx6 pB 1 S q 0 L D) S' l) (hl : allP l) (hq : TR Tryz.prog cx6 nt cc S' Q n) : TR Tryz.prog cx6 nt cc S Q (1 + n) :=
  rd0 cl31_ok hm hG hp hn (mpr h (doneL hl)) hq
structure Kk (m : Int) (nt : Nat) (cc : Code) (r : X) : Prop where
  hm : Tryz.prog.follows .mixedOrders = true
  hG : fun6.G.length ≤ 64
  hp : Pt Tryz.prog fun6 nt cc pB
  hr : OpFact .rem (S8 m) (z 3076) r
theorem Kk.rd {r : X} (K : Kk m nt cc r) {S S' : Tst} {q : List X} {L D : List Nat} {Q : Exit → Tst → Prop} {n : Nat} (hn : S'.n = L.length) (h : rr (segR cx6 pB 1 S q 0 L D) S' [OpFact .rem (S8 m) (z 3076) r]) (hq : TR Tryz.prog cx6 nt cc S' Q n) : TR Tryz.prog cx6 nt cc S Q (1 + n) := rdR K.hm K.hG K.hp hn h ⟨K.hr, trivial⟩ hq
theorem fM (h0 : 0 ≤ m) (k N : Nat) (hk : m % 6 = k) (hN : N = 512 * k + 4) : OpFact .rem (S8 m) (z 3076) (z N) := f_rem 6 3076 u6 (by decide) h0 hk (dN8 hN)
abbrev Z0 : X := SI ((0 : Nat) : Int)
abbrev Z1 : X := SI ((10 : Nat) : Int)
theorem lpG {W : X → X → X → X → Tst} {V : X → X → X → Tst} {L' D' : List Nat} {n2 : Int}
    (hX : ∀ k s c : Int, rr (segR cx6 pB 1 (W (SI 14) (SI k) (SI s) (SI c)) [F_] 2 L' D') (V (SI 14) (SI k) (SI s)) [OpFact .lss (SI 14) (z 448) F_])
    (hw : ∀ (x y : X) Q q, TR Tryz.prog cx6 nt cc (W x Z0 Z1 y) Q q → TR Tryz.prog cx6 nt cc (W x (z 0) (z 320) y) Q q) (h2 : 0 ≤ n2 ∧ n2 < 100 ∧ n2 % 2 = 0) (hl' : ∀ x y u, (V x y u).n = L'.length) {r : X} {L D : List Nat} (K : Kk m nt cc r) (hE : ∀ i c k s : Int, rr (segR cx6 pB 1 (W (SI i) (SI k) (SI s) (SI c)) (qE i c r) 0 L D) (W (SI (i + 1)) (z 0) (z 320) (SI (c + 2))) (fE m i c r))
    (hl : ∀ x y u v, (W x y u v).n = L.length) : ∀ (d : Nat) (i c k s : Int), 0 ≤ i → i + d = 13 → c = 2 * i + n2 → ∃ q, TR Tryz.prog cx6 nt cc (W (SI i) (SI k) (SI s) (SI c)) (At1 2 (V (SI 14) Z0 Z1)) q
  | 0, i, c, k, s, hi, he, hc => by
    have e : i = 13 := by omega
    subst e
    exact ⟨_, rdR K.hm K.hG K.hp (hl _ _ _ _) (hE 13 c k s) (fE_ok (by omega) (by omega) (by omega) (by omega) (by omega) K.hr) (hw _ _ _ _ (rdE cl31_ok K.hm K.hG K.hp (hl' _ _ _) (mpr (hX _ _ (c + 2)) (doneL ⟨(f_lssF dS (dN (m := 14) rfl) (by omega)), trivial⟩))))⟩
  | d + 1, i, c, k, s, hi, he, hc => by
    obtain ⟨q, hq⟩ := lpG hX hw h2 hl' K hE hl d (i + 1) (c + 2) _ _ (by omega) (by omega) (by omega)
    exact ⟨_, rdR K.hm K.hG K.hp (hl _ _ _ _) (hE i c k s) (fE_ok (by omega) (by omega) (by omega) (by omega) (by omega) K.hr) (hw _ _ _ _ hq)⟩
theorem kw0 (hG : fun6.G.length ≤ 64) (x y : X) (Q q) (h : TR Tryz.prog cx6 nt cc (W0_1 a m x Z0 Z1 y) Q q) : TR Tryz.prog cx6 nt cc (W0_1 a m x (z 0) (z 320) y) Q q := TR_wk (S' := W0_1 a m x Z0 Z1 y) hG (wk2 0 10) rfl rfl (Nat.le_of_ble_eq_true rfl) h
theorem all0 (hm : Tryz.prog.follows .mixedOrders = true) (hG : fun6.G.length ≤ 64) (hp : Pt Tryz.prog fun6 nt cc pB) (h0 : 0 ≤ m) : ∃ q, TR Tryz.prog cx6 nt cc (W0_0 a m (z 0) (z 14) (z 14) (z 0)) (At1 2 (X0 a m (SI 14) Z0 Z1)) q := by
  have h6 : m % 6 = 0 ∨ m % 6 = 1 ∨ m % 6 = 2 ∨ m % 6 = 3 ∨ m % 6 = 4 ∨ m % 6 = 5 := by omega
  have H := @lpG m nt cc (W0_1 a m) (X0 a m) _ _ 0 (go_x0 a m) (kw0 hG) (by decide) (fun _ _ _ => rfl)
  rcases h6 with h | h | h | h | h | h
  · have K : Kk m nt cc _ := ⟨hm, hG, hp, fM h0 0 4 h rfl⟩
    obtain ⟨q, hq⟩ := H K (go_n0_1 a m) (fun _ _ _ _ => rfl) 12 (1 : Nat) (2 : Nat) (0 : Nat) (10 : Nat) (by decide) (by decide) (by decide)
    exact ⟨_, (K.rd rfl (go_r0_1_1 a m) (TR_wkB hG (wk3 1 0 10) (.same (.same (.same (.same (wkc 2))))) (Nat.le_of_ble_eq_true rfl) (Nat.le_of_ble_eq_true rfl) hq))⟩
  · have K : Kk m nt cc _ := ⟨hm, hG, hp, fM h0 1 516 h rfl⟩
    obtain ⟨q, hq⟩ := H K (go_n0_2 a m) (fun _ _ _ _ => rfl) 12 (1 : Nat) (2 : Nat) (0 : Nat) (10 : Nat) (by decide) (by decide) (by decide)
    exact ⟨_, (K.rd rfl (go_r0_2_1 a m) (TR_wkB hG (wk3 1 0 10) (.same (.same (.same (.same (wkc 2))))) (Nat.le_of_ble_eq_true rfl) (Nat.le_of_ble_eq_true rfl) hq))⟩
  · have K : Kk m nt cc _ := ⟨hm, hG, hp, fM h0 2 1028 h rfl⟩
    obtain ⟨q, hq⟩ := H K (go_n0_3 a m) (fun _ _ _ _ => rfl) 12 (1 : Nat) (2 : Nat) (0 : Nat) (10 : Nat) (by decide) (by decide) (by decide)
    exact ⟨_, (K.rd rfl (go_r0_3_1 a m) (TR_wkB hG (wk3 1 0 10) (.same (.same (.same (.same (wkc 2))))) (Nat.le_of_ble_eq_true rfl) (Nat.le_of_ble_eq_true rfl) hq))⟩
  · have K : Kk m nt cc _ := ⟨hm, hG, hp, fM h0 3 1540 h rfl⟩
    obtain ⟨q, hq⟩ := H K (go_n0_4 a m) (fun _ _ _ _ => rfl) 12 (1 : Nat) (2 : Nat) (0 : Nat) (10 : Nat) (by decide) (by decide) (by decide)
    exact ⟨_, (K.rd rfl (go_r0_4_1 a m) (TR_wkB hG (wk3 1 0 10) (.same (.same (.same (.same (wkc 2))))) (Nat.le_of_ble_eq_true rfl) (Nat.le_of_ble_eq_true rfl) hq))⟩
  · have K : Kk m nt cc _ := ⟨hm, hG, hp, fM h0 4 2052 h rfl⟩
    obtain ⟨q, hq⟩ := H K (go_n0_5 a m) (fun _ _ _ _ => rfl) 12 (1 : Nat) (2 : Nat) (0 : Nat) (10 : Nat) (by decide) (by decide) (by decide)
    exact ⟨_, (K.rd rfl (go_r0_5_1 a m) (TR_wkB hG (wk3 1 0 10) (.same (.same (.same (.same (wkc 2))))) (Nat.le_of_ble_eq_true rfl) (Nat.le_of_ble_eq_true rfl) hq))⟩
  · have K : Kk m nt cc _ := ⟨hm, hG, hp, fM h0 5 2564 h rfl⟩
    obtain ⟨q, hq⟩ := H K (go_n0_6 a m) (fun _ _ _ _ => rfl) 12 (1 : Nat) (2 : Nat) (0 : Nat) (10 : Nat) (by decide) (by decide) (by decide)
    exact ⟨_, (K.rd rfl (go_r0_6_1 a m) (TR_wkB hG (wk3 1 0 10) (.same (.same (.same (.same (wkc 2))))) (Nat.le_of_ble_eq_true rfl) (Nat.le_of_ble_eq_true rfl) hq))⟩
theorem kw1 (hG : fun6.G.length ≤ 64) (x y : X) (Q q) (h : TR Tryz.prog cx6 nt cc (W1_1 a m x Z0 Z1 y) Q q) : TR Tryz.prog cx6 nt cc (W1_1 a m x (z 0) (z 320) y) Q q := TR_wk (S' := W1_1 a m x Z0 Z1 y) hG (wk2 0 10) rfl rfl (Nat.le_of_ble_eq_true rfl) h
theorem all1 (hm : Tryz.prog.follows .mixedOrders = true) (hG : fun6.G.length ≤ 64) (hp : Pt Tryz.prog fun6 nt cc pB) (h0 : 0 ≤ m) : ∃ q, TR Tryz.prog cx6 nt cc (W1_0 a m (z 0) (z 14) (z 14) (z 64)) (At1 2 (X1 a m (SI 14) Z0 Z1)) q := by
  have h6 : m % 6 = 0 ∨ m % 6 = 1 ∨ m % 6 = 2 ∨ m % 6 = 3 ∨ m % 6 = 4 ∨ m % 6 = 5 := by omega
  have H := @lpG m nt cc (W1_1 a m) (X1 a m) _ _ 2 (go_x1 a m) (kw1 hG) (by decide) (fun _ _ _ => rfl)
  rcases h6 with h | h | h | h | h | h
  · have K : Kk m nt cc _ := ⟨hm, hG, hp, fM h0 0 4 h rfl⟩
    obtain ⟨q, hq⟩ := H K (go_n1_1 a m) (fun _ _ _ _ => rfl) 12 (1 : Nat) (4 : Nat) (1 : Nat) (11 : Nat) (by decide) (by decide) (by decide)
    exact ⟨_, (K.rd rfl (go_r1_1_1 a m) (TR_wkB hG (wk3 1 1 11) (.same (.same (.same (.same (.same (.same (wkc 4))))))) (Nat.le_of_ble_eq_true rfl) (Nat.le_of_ble_eq_true rfl) hq))⟩
  · have K : Kk m nt cc _ := ⟨hm, hG, hp, fM h0 1 516 h rfl⟩
    obtain ⟨q, hq⟩ := H K (go_n1_2 a m) (fun _ _ _ _ => rfl) 12 (1 : Nat) (4 : Nat) (1 : Nat) (11 : Nat) (by decide) (by decide) (by decide)
    exact ⟨_, (K.rd rfl (go_r1_2_1 a m) (TR_wkB hG (wk3 1 1 11) (.same (.same (.same (.same (.same (.same (wkc 4))))))) (Nat.le_of_ble_eq_true rfl) (Nat.le_of_ble_eq_true rfl) hq))⟩
  · have K : Kk m nt cc _ := ⟨hm, hG, hp, fM h0 2 1028 h rfl⟩
    obtain ⟨q, hq⟩ := H K (go_n1_3 a m) (fun _ _ _ _ => rfl) 12 (1 : Nat) (4 : Nat) (1 : Nat) (11 : Nat) (by decide) (by decide) (by decide)
    exact ⟨_, (K.rd rfl (go_r1_3_1 a m) (TR_wkB hG (wk3 1 1 11) (.same (.same (.same (.same (.same (.same (wkc 4))))))) (Nat.le_of_ble_eq_true rfl) (Nat.le_of_ble_eq_true rfl) hq))⟩
  · have K : Kk m nt cc _ := ⟨hm, hG, hp, fM h0 3 1540 h rfl⟩
    obtain ⟨q, hq⟩ := H K (go_n1_4 a m) (fun _ _ _ _ => rfl) 12 (1 : Nat) (4 : Nat) (1 : Nat) (11 : Nat) (by decide) (by decide) (by decide)
    exact ⟨_, (K.rd rfl (go_r1_4_1 a m) (TR_wkB hG (wk3 1 1 11) (.same (.same (.same (.same (.same (.same (wkc 4))))))) (Nat.le_of_ble_eq_true rfl) (Nat.le_of_ble_eq_true rfl) hq))⟩
  · have K : Kk m nt cc _ := ⟨hm, hG, hp, fM h0 4 2052 h rfl⟩
    obtain ⟨q, hq⟩ := H K (go_n1_5 a m) (fun _ _ _ _ => rfl) 12 (1 : Nat) (4 : Nat) (1 : Nat) (11 : Nat) (by decide) (by decide) (by decide)
    exact ⟨_, (K.rd rfl (go_r1_5_1 a m) (TR_wkB hG (wk3 1 1 11) (.same (.same (.same (.same (.same (.same (wkc 4))))))) (Nat.le_of_ble_eq_true rfl) (Nat.le_of_ble_eq_true rfl) hq))⟩
  · have K : Kk m nt cc _ := ⟨hm, hG, hp, fM h0 5 2564 h rfl⟩
    obtain ⟨q, hq⟩ := H K (go_n1_6 a m) (fun _ _ _ _ => rfl) 12 (1 : Nat) (4 : Nat) (1 : Nat) (11 : Nat) (by decide) (by decide) (by decide)
    exact ⟨_, (K.rd rfl (go_r1_6_1 a m) (TR_wkB hG (wk3 1 1 11) (.same (.same (.same (.same (.same (.same (wkc 4))))))) (Nat.le_of_ble_eq_true rfl) (Nat.le_of_ble_eq_true rfl) hq))⟩
theorem kw2 (hG : fun6.G.length ≤ 64) (x y : X) (Q q) (h : TR Tryz.prog cx6 nt cc (W2_2 a m x Z0 Z1 y) Q q) : TR Tryz.prog cx6 nt cc (W2_2 a m x (z 0) (z 320) y) Q q := TR_wk (S' := W2_2 a m x Z0 Z1 y) hG (wk2 0 10) rfl rfl (Nat.le_of_ble_eq_true rfl) h
theorem all2 (hm : Tryz.prog.follows .mixedOrders = true) (hG : fun6.G.length ≤ 64) (hp : Pt Tryz.prog fun6 nt cc pB) (h0 : 0 ≤ m) : ∃ q, TR Tryz.prog cx6 nt cc (W2_0 a m (z 0) (z 14) (z 14) (z 128)) (At1 2 (X2 a m (SI 14) Z0 Z1)) q := by
  have h6 : m % 6 = 0 ∨ m % 6 = 1 ∨ m % 6 = 2 ∨ m % 6 = 3 ∨ m % 6 = 4 ∨ m % 6 = 5 := by omega
  have H := @lpG m nt cc (W2_2 a m) (X2 a m) _ _ 4 (go_x2 a m) (kw2 hG) (by decide) (fun _ _ _ => rfl)
  rcases h6 with h | h | h | h | h | h
  · have K : Kk m nt cc _ := ⟨hm, hG, hp, fM h0 0 4 h rfl⟩
    obtain ⟨q, hq⟩ := H K (go_n2_1 a m) (fun _ _ _ _ => rfl) 11 (2 : Nat) (8 : Nat) (1 : Nat) (11 : Nat) (by decide) (by decide) (by decide)
    exact ⟨_, (K.rd rfl (go_r2_1_1 a m) (K.rd rfl (go_r2_1_2 a m) (TR_wkB hG (wk3 2 1 11) (.same (.same (.same (.same (.same (.same (wkc 8))))))) (Nat.le_of_ble_eq_true rfl) (Nat.le_of_ble_eq_true rfl) hq)))⟩
  · have K : Kk m nt cc _ := ⟨hm, hG, hp, fM h0 1 516 h rfl⟩
    obtain ⟨q, hq⟩ := H K (go_n2_2 a m) (fun _ _ _ _ => rfl) 12 (1 : Nat) (6 : Nat) (2 : Nat) (11 : Nat) (by decide) (by decide) (by decide)
    exact ⟨_, (K.rd rfl (go_r2_2_1 a m) (TR_wkB hG (wk3 1 2 11) (.same (.same (.same (.same (.same (.same (wkc 6))))))) (Nat.le_of_ble_eq_true rfl) (Nat.le_of_ble_eq_true rfl) hq))⟩
  · have K : Kk m nt cc _ := ⟨hm, hG, hp, fM h0 2 1028 h rfl⟩
    obtain ⟨q, hq⟩ := H K (go_n2_3 a m) (fun _ _ _ _ => rfl) 12 (1 : Nat) (6 : Nat) (2 : Nat) (11 : Nat) (by decide) (by decide) (by decide)
    exact ⟨_, (K.rd rfl (go_r2_3_1 a m) (TR_wkB hG (wk3 1 2 11) (.same (.same (.same (.same (.same (.same (wkc 6))))))) (Nat.le_of_ble_eq_true rfl) (Nat.le_of_ble_eq_true rfl) hq))⟩
  · have K : Kk m nt cc _ := ⟨hm, hG, hp, fM h0 3 1540 h rfl⟩
    obtain ⟨q, hq⟩ := H K (go_n2_4 a m) (fun _ _ _ _ => rfl) 12 (1 : Nat) (6 : Nat) (2 : Nat) (11 : Nat) (by decide) (by decide) (by decide)
    exact ⟨_, (K.rd rfl (go_r2_4_1 a m) (TR_wkB hG (wk3 1 2 11) (.same (.same (.same (.same (.same (.same (wkc 6))))))) (Nat.le_of_ble_eq_true rfl) (Nat.le_of_ble_eq_true rfl) hq))⟩
  · have K : Kk m nt cc _ := ⟨hm, hG, hp, fM h0 4 2052 h rfl⟩
    obtain ⟨q, hq⟩ := H K (go_n2_5 a m) (fun _ _ _ _ => rfl) 12 (1 : Nat) (6 : Nat) (2 : Nat) (11 : Nat) (by decide) (by decide) (by decide)
    exact ⟨_, (K.rd rfl (go_r2_5_1 a m) (TR_wkB hG (wk3 1 2 11) (.same (.same (.same (.same (.same (.same (wkc 6))))))) (Nat.le_of_ble_eq_true rfl) (Nat.le_of_ble_eq_true rfl) hq))⟩
  · have K : Kk m nt cc _ := ⟨hm, hG, hp, fM h0 5 2564 h rfl⟩
    obtain ⟨q, hq⟩ := H K (go_n2_6 a m) (fun _ _ _ _ => rfl) 12 (1 : Nat) (6 : Nat) (2 : Nat) (11 : Nat) (by decide) (by decide) (by decide)
    exact ⟨_, (K.rd rfl (go_r2_6_1 a m) (TR_wkB hG (wk3 1 2 11) (.same (.same (.same (.same (.same (.same (wkc 6))))))) (Nat.le_of_ble_eq_true rfl) (Nat.le_of_ble_eq_true rfl) hq))⟩
theorem kw3 (hG : fun6.G.length ≤ 64) (x y : X) (Q q) (h : TR Tryz.prog cx6 nt cc (W3_3 a m x Z0 Z1 y) Q q) : TR Tryz.prog cx6 nt cc (W3_3 a m x (z 0) (z 320) y) Q q := TR_wk (S' := W3_3 a m x Z0 Z1 y) hG (wk2 0 10) rfl rfl (Nat.le_of_ble_eq_true rfl) h
theorem all3 (hm : Tryz.prog.follows .mixedOrders = true) (hG : fun6.G.length ≤ 64) (hp : Pt Tryz.prog fun6 nt cc pB) (h0 : 0 ≤ m) : ∃ q, TR Tryz.prog cx6 nt cc (W3_0 a m (z 0) (z 14) (z 14) (z 192)) (At1 2 (X3 a m (SI 14) Z0 Z1)) q := by
  have h6 : m % 6 = 0 ∨ m % 6 = 1 ∨ m % 6 = 2 ∨ m % 6 = 3 ∨ m % 6 = 4 ∨ m % 6 = 5 := by omega
  have H := @lpG m nt cc (W3_3 a m) (X3 a m) _ _ 6 (go_x3 a m) (kw3 hG) (by decide) (fun _ _ _ => rfl)
  rcases h6 with h | h | h | h | h | h
  · have K : Kk m nt cc _ := ⟨hm, hG, hp, fM h0 0 4 h rfl⟩
    obtain ⟨q, hq⟩ := H K (go_n3_1 a m) (fun _ _ _ _ => rfl) 10 (3 : Nat) (12 : Nat) (1 : Nat) (11 : Nat) (by decide) (by decide) (by decide)
    exact ⟨_, (K.rd rfl (go_r3_1_1 a m) (K.rd rfl (go_r3_1_2 a m) (K.rd rfl (go_r3_1_3 a m) (TR_wkB hG (wk3 3 1 11) (.same (.same (.same (.same (.same (.same (wkc 12))))))) (Nat.le_of_ble_eq_true rfl) (Nat.le_of_ble_eq_true rfl) hq))))⟩
  · have K : Kk m nt cc _ := ⟨hm, hG, hp, fM h0 1 516 h rfl⟩
    obtain ⟨q, hq⟩ := H K (go_n3_2 a m) (fun _ _ _ _ => rfl) 11 (2 : Nat) (10 : Nat) (1 : Nat) (11 : Nat) (by decide) (by decide) (by decide)
    exact ⟨_, (K.rd rfl (go_r3_2_1 a m) (K.rd rfl (go_r3_2_2 a m) (TR_wkB hG (wk3 2 1 11) (.same (.same (.same (.same (.same (.same (wkc 10))))))) (Nat.le_of_ble_eq_true rfl) (Nat.le_of_ble_eq_true rfl) hq)))⟩
  · have K : Kk m nt cc _ := ⟨hm, hG, hp, fM h0 2 1028 h rfl⟩
    obtain ⟨q, hq⟩ := H K (go_n3_3 a m) (fun _ _ _ _ => rfl) 12 (1 : Nat) (8 : Nat) (3 : Nat) (11 : Nat) (by decide) (by decide) (by decide)
    exact ⟨_, (K.rd rfl (go_r3_3_1 a m) (TR_wkB hG (wk3 1 3 11) (.same (.same (.same (.same (.same (.same (wkc 8))))))) (Nat.le_of_ble_eq_true rfl) (Nat.le_of_ble_eq_true rfl) hq))⟩
  · have K : Kk m nt cc _ := ⟨hm, hG, hp, fM h0 3 1540 h rfl⟩
    obtain ⟨q, hq⟩ := H K (go_n3_4 a m) (fun _ _ _ _ => rfl) 12 (1 : Nat) (8 : Nat) (3 : Nat) (11 : Nat) (by decide) (by decide) (by decide)
    exact ⟨_, (K.rd rfl (go_r3_4_1 a m) (TR_wkB hG (wk3 1 3 11) (.same (.same (.same (.same (.same (.same (wkc 8))))))) (Nat.le_of_ble_eq_true rfl) (Nat.le_of_ble_eq_true rfl) hq))⟩
  · have K : Kk m nt cc _ := ⟨hm, hG, hp, fM h0 4 2052 h rfl⟩
    obtain ⟨q, hq⟩ := H K (go_n3_5 a m) (fun _ _ _ _ => rfl) 12 (1 : Nat) (8 : Nat) (3 : Nat) (11 : Nat) (by decide) (by decide) (by decide)
    exact ⟨_, (K.rd rfl (go_r3_5_1 a m) (TR_wkB hG (wk3 1 3 11) (.same (.same (.same (.same (.same (.same (wkc 8))))))) (Nat.le_of_ble_eq_true rfl) (Nat.le_of_ble_eq_true rfl) hq))⟩
  · have K : Kk m nt cc _ := ⟨hm, hG, hp, fM h0 5 2564 h rfl⟩
    obtain ⟨q, hq⟩ := H K (go_n3_6 a m) (fun _ _ _ _ => rfl) 12 (1 : Nat) (8 : Nat) (3 : Nat) (11 : Nat) (by decide) (by decide) (by decide)
    exact ⟨_, (K.rd rfl (go_r3_6_1 a m) (TR_wkB hG (wk3 1 3 11) (.same (.same (.same (.same (.same (.same (wkc 8))))))) (Nat.le_of_ble_eq_true rfl) (Nat.le_of_ble_eq_true rfl) hq))⟩
theorem kw4 (hG : fun6.G.length ≤ 64) (x y : X) (Q q) (h : TR Tryz.prog cx6 nt cc (W4_4 a m x Z0 Z1 y) Q q) : TR Tryz.prog cx6 nt cc (W4_4 a m x (z 0) (z 320) y) Q q := TR_wk (S' := W4_4 a m x Z0 Z1 y) hG (wk2 0 10) rfl rfl (Nat.le_of_ble_eq_true rfl) h
theorem all4 (hm : Tryz.prog.follows .mixedOrders = true) (hG : fun6.G.length ≤ 64) (hp : Pt Tryz.prog fun6 nt cc pB) (h0 : 0 ≤ m) : ∃ q, TR Tryz.prog cx6 nt cc (W4_0 a m (z 0) (z 14) (z 14) (z 256)) (At1 2 (X4 a m (SI 14) Z0 Z1)) q := by
  have h6 : m % 6 = 0 ∨ m % 6 = 1 ∨ m % 6 = 2 ∨ m % 6 = 3 ∨ m % 6 = 4 ∨ m % 6 = 5 := by omega
  have H := @lpG m nt cc (W4_4 a m) (X4 a m) _ _ 8 (go_x4 a m) (kw4 hG) (by decide) (fun _ _ _ => rfl)
  rcases h6 with h | h | h | h | h | h
  · have K : Kk m nt cc _ := ⟨hm, hG, hp, fM h0 0 4 h rfl⟩
    obtain ⟨q, hq⟩ := H K (go_n4_1 a m) (fun _ _ _ _ => rfl) 9 (4 : Nat) (16 : Nat) (1 : Nat) (11 : Nat) (by decide) (by decide) (by decide)
    exact ⟨_, (K.rd rfl (go_r4_1_1 a m) (K.rd rfl (go_r4_1_2 a m) (K.rd rfl (go_r4_1_3 a m) (K.rd rfl (go_r4_1_4 a m) (TR_wkB hG (wk3 4 1 11) (.same (.same (.same (.same (.same (.same (wkc 16))))))) (Nat.le_of_ble_eq_true rfl) (Nat.le_of_ble_eq_true rfl) hq)))))⟩
  · have K : Kk m nt cc _ := ⟨hm, hG, hp, fM h0 1 516 h rfl⟩
    obtain ⟨q, hq⟩ := H K (go_n4_2 a m) (fun _ _ _ _ => rfl) 11 (2 : Nat) (12 : Nat) (2 : Nat) (11 : Nat) (by decide) (by decide) (by decide)
    exact ⟨_, (K.rd rfl (go_r4_2_1 a m) (K.rd rfl (go_r4_2_2 a m) (TR_wkB hG (wk3 2 2 11) (.same (.same (.same (.same (.same (.same (wkc 12))))))) (Nat.le_of_ble_eq_true rfl) (Nat.le_of_ble_eq_true rfl) hq)))⟩
  · have K : Kk m nt cc _ := ⟨hm, hG, hp, fM h0 2 1028 h rfl⟩
    obtain ⟨q, hq⟩ := H K (go_n4_3 a m) (fun _ _ _ _ => rfl) 11 (2 : Nat) (12 : Nat) (1 : Nat) (11 : Nat) (by decide) (by decide) (by decide)
    exact ⟨_, (K.rd rfl (go_r4_3_1 a m) (K.rd rfl (go_r4_3_2 a m) (TR_wkB hG (wk3 2 1 11) (.same (.same (.same (.same (.same (.same (wkc 12))))))) (Nat.le_of_ble_eq_true rfl) (Nat.le_of_ble_eq_true rfl) hq)))⟩
  · have K : Kk m nt cc _ := ⟨hm, hG, hp, fM h0 3 1540 h rfl⟩
    obtain ⟨q, hq⟩ := H K (go_n4_4 a m) (fun _ _ _ _ => rfl) 12 (1 : Nat) (10 : Nat) (4 : Nat) (11 : Nat) (by decide) (by decide) (by decide)
    exact ⟨_, (K.rd rfl (go_r4_4_1 a m) (TR_wkB hG (wk3 1 4 11) (.same (.same (.same (.same (.same (.same (wkc 10))))))) (Nat.le_of_ble_eq_true rfl) (Nat.le_of_ble_eq_true rfl) hq))⟩
  · have K : Kk m nt cc _ := ⟨hm, hG, hp, fM h0 4 2052 h rfl⟩
    obtain ⟨q, hq⟩ := H K (go_n4_5 a m) (fun _ _ _ _ => rfl) 12 (1 : Nat) (10 : Nat) (4 : Nat) (11 : Nat) (by decide) (by decide) (by decide)
    exact ⟨_, (K.rd rfl (go_r4_5_1 a m) (TR_wkB hG (wk3 1 4 11) (.same (.same (.same (.same (.same (.same (wkc 10))))))) (Nat.le_of_ble_eq_true rfl) (Nat.le_of_ble_eq_true rfl) hq))⟩
  · have K : Kk m nt cc _ := ⟨hm, hG, hp, fM h0 5 2564 h rfl⟩
    obtain ⟨q, hq⟩ := H K (go_n4_6 a m) (fun _ _ _ _ => rfl) 12 (1 : Nat) (10 : Nat) (4 : Nat) (11 : Nat) (by decide) (by decide) (by decide)
    exact ⟨_, (K.rd rfl (go_r4_6_1 a m) (TR_wkB hG (wk3 1 4 11) (.same (.same (.same (.same (.same (.same (wkc 10))))))) (Nat.le_of_ble_eq_true rfl) (Nat.le_of_ble_eq_true rfl) hq))⟩
theorem kw5 (hG : fun6.G.length ≤ 64) (x y : X) (Q q) (h : TR Tryz.prog cx6 nt cc (W5_5 a m x Z0 Z1 y) Q q) : TR Tryz.prog cx6 nt cc (W5_5 a m x (z 0) (z 320) y) Q q := TR_wk (S' := W5_5 a m x Z0 Z1 y) hG (wk2 0 10) rfl rfl (Nat.le_of_ble_eq_true rfl) h
theorem all5 (hm : Tryz.prog.follows .mixedOrders = true) (hG : fun6.G.length ≤ 64) (hp : Pt Tryz.prog fun6 nt cc pB) (h0 : 0 ≤ m) : ∃ q, TR Tryz.prog cx6 nt cc (W5_0 a m (z 0) (z 14) (z 14) (z 320)) (At1 2 (X5 a m (SI 14) Z0 Z1)) q := by
  have h6 : m % 6 = 0 ∨ m % 6 = 1 ∨ m % 6 = 2 ∨ m % 6 = 3 ∨ m % 6 = 4 ∨ m % 6 = 5 := by omega
  have H := @lpG m nt cc (W5_5 a m) (X5 a m) _ _ 10 (go_x5 a m) (kw5 hG) (by decide) (fun _ _ _ => rfl)
  rcases h6 with h | h | h | h | h | h
  · have K : Kk m nt cc _ := ⟨hm, hG, hp, fM h0 0 4 h rfl⟩
    obtain ⟨q, hq⟩ := H K (go_n5_1 a m) (fun _ _ _ _ => rfl) 8 (5 : Nat) (20 : Nat) (1 : Nat) (11 : Nat) (by decide) (by decide) (by decide)
    exact ⟨_, (K.rd rfl (go_r5_1_1 a m) (K.rd rfl (go_r5_1_2 a m) (K.rd rfl (go_r5_1_3 a m) (K.rd rfl (go_r5_1_4 a m) (K.rd rfl (go_r5_1_5 a m) (TR_wkB hG (wk3 5 1 11) (.same (.same (.same (.same (.same (.same (wkc 20))))))) (Nat.le_of_ble_eq_true rfl) (Nat.le_of_ble_eq_true rfl) hq))))))⟩
  · have K : Kk m nt cc _ := ⟨hm, hG, hp, fM h0 1 516 h rfl⟩
    obtain ⟨q, hq⟩ := H K (go_n5_2 a m) (fun _ _ _ _ => rfl) 10 (3 : Nat) (16 : Nat) (1 : Nat) (11 : Nat) (by decide) (by decide) (by decide)
    exact ⟨_, (K.rd rfl (go_r5_2_1 a m) (K.rd rfl (go_r5_2_2 a m) (K.rd rfl (go_r5_2_3 a m) (TR_wkB hG (wk3 3 1 11) (.same (.same (.same (.same (.same (.same (wkc 16))))))) (Nat.le_of_ble_eq_true rfl) (Nat.le_of_ble_eq_true rfl) hq))))⟩
  · have K : Kk m nt cc _ := ⟨hm, hG, hp, fM h0 2 1028 h rfl⟩
    obtain ⟨q, hq⟩ := H K (go_n5_3 a m) (fun _ _ _ _ => rfl) 11 (2 : Nat) (14 : Nat) (2 : Nat) (11 : Nat) (by decide) (by decide) (by decide)
    exact ⟨_, (K.rd rfl (go_r5_3_1 a m) (K.rd rfl (go_r5_3_2 a m) (TR_wkB hG (wk3 2 2 11) (.same (.same (.same (.same (.same (.same (wkc 14))))))) (Nat.le_of_ble_eq_true rfl) (Nat.le_of_ble_eq_true rfl) hq)))⟩
  · have K : Kk m nt cc _ := ⟨hm, hG, hp, fM h0 3 1540 h rfl⟩
    obtain ⟨q, hq⟩ := H K (go_n5_4 a m) (fun _ _ _ _ => rfl) 11 (2 : Nat) (14 : Nat) (1 : Nat) (11 : Nat) (by decide) (by decide) (by decide)
    exact ⟨_, (K.rd rfl (go_r5_4_1 a m) (K.rd rfl (go_r5_4_2 a m) (TR_wkB hG (wk3 2 1 11) (.same (.same (.same (.same (.same (.same (wkc 14))))))) (Nat.le_of_ble_eq_true rfl) (Nat.le_of_ble_eq_true rfl) hq)))⟩
  · have K : Kk m nt cc _ := ⟨hm, hG, hp, fM h0 4 2052 h rfl⟩
    obtain ⟨q, hq⟩ := H K (go_n5_5 a m) (fun _ _ _ _ => rfl) 12 (1 : Nat) (12 : Nat) (5 : Nat) (11 : Nat) (by decide) (by decide) (by decide)
    exact ⟨_, (K.rd rfl (go_r5_5_1 a m) (TR_wkB hG (wk3 1 5 11) (.same (.same (.same (.same (.same (.same (wkc 12))))))) (Nat.le_of_ble_eq_true rfl) (Nat.le_of_ble_eq_true rfl) hq))⟩
  · have K : Kk m nt cc _ := ⟨hm, hG, hp, fM h0 5 2564 h rfl⟩
    obtain ⟨q, hq⟩ := H K (go_n5_6 a m) (fun _ _ _ _ => rfl) 12 (1 : Nat) (12 : Nat) (5 : Nat) (11 : Nat) (by decide) (by decide) (by decide)
    exact ⟨_, (K.rd rfl (go_r5_6_1 a m) (TR_wkB hG (wk3 1 5 11) (.same (.same (.same (.same (.same (.same (wkc 12))))))) (Nat.le_of_ble_eq_true rfl) (Nat.le_of_ble_eq_true rfl) hq))⟩
theorem kw6 (hG : fun6.G.length ≤ 64) (x y : X) (Q q) (h : TR Tryz.prog cx6 nt cc (W6_6 a m x Z0 Z1 y) Q q) : TR Tryz.prog cx6 nt cc (W6_6 a m x (z 0) (z 320) y) Q q := TR_wk (S' := W6_6 a m x Z0 Z1 y) hG (wk2 0 10) rfl rfl (Nat.le_of_ble_eq_true rfl) h
theorem all6 (hm : Tryz.prog.follows .mixedOrders = true) (hG : fun6.G.length ≤ 64) (hp : Pt Tryz.prog fun6 nt cc pB) (h0 : 0 ≤ m) : ∃ q, TR Tryz.prog cx6 nt cc (W6_0 a m (z 0) (z 14) (z 14) (z 384)) (At1 2 (X6 a m (SI 14) Z0 Z1)) q := by
  have h6 : m % 6 = 0 ∨ m % 6 = 1 ∨ m % 6 = 2 ∨ m % 6 = 3 ∨ m % 6 = 4 ∨ m % 6 = 5 := by omega
  have H := @lpG m nt cc (W6_6 a m) (X6 a m) _ _ 12 (go_x6 a m) (kw6 hG) (by decide) (fun _ _ _ => rfl)
  rcases h6 with h | h | h | h | h | h
  · have K : Kk m nt cc _ := ⟨hm, hG, hp, fM h0 0 4 h rfl⟩
    obtain ⟨q, hq⟩ := H K (go_n6_1 a m) (fun _ _ _ _ => rfl) 7 (6 : Nat) (24 : Nat) (1 : Nat) (11 : Nat) (by decide) (by decide) (by decide)
    exact ⟨_, (K.rd rfl (go_r6_1_1 a m) (K.rd rfl (go_r6_1_2 a m) (K.rd rfl (go_r6_1_3 a m) (K.rd rfl (go_r6_1_4 a m) (K.rd rfl (go_r6_1_5 a m) (K.rd rfl (go_r6_1_6 a m) (TR_wkB hG (wk3 6 1 11) (.same (.same (.same (.same (.same (.same (wkc 24))))))) (Nat.le_of_ble_eq_true rfl) (Nat.le_of_ble_eq_true rfl) hq)))))))⟩
  · have K : Kk m nt cc _ := ⟨hm, hG, hp, fM h0 1 516 h rfl⟩
    obtain ⟨q, hq⟩ := H K (go_n6_2 a m) (fun _ _ _ _ => rfl) 10 (3 : Nat) (18 : Nat) (2 : Nat) (11 : Nat) (by decide) (by decide) (by decide)
    exact ⟨_, (K.rd rfl (go_r6_2_1 a m) (K.rd rfl (go_r6_2_2 a m) (K.rd rfl (go_r6_2_3 a m) (TR_wkB hG (wk3 3 2 11) (.same (.same (.same (.same (.same (.same (wkc 18))))))) (Nat.le_of_ble_eq_true rfl) (Nat.le_of_ble_eq_true rfl) hq))))⟩
  · have K : Kk m nt cc _ := ⟨hm, hG, hp, fM h0 2 1028 h rfl⟩
    obtain ⟨q, hq⟩ := H K (go_n6_3 a m) (fun _ _ _ _ => rfl) 11 (2 : Nat) (16 : Nat) (3 : Nat) (11 : Nat) (by decide) (by decide) (by decide)
    exact ⟨_, (K.rd rfl (go_r6_3_1 a m) (K.rd rfl (go_r6_3_2 a m) (TR_wkB hG (wk3 2 3 11) (.same (.same (.same (.same (.same (.same (wkc 16))))))) (Nat.le_of_ble_eq_true rfl) (Nat.le_of_ble_eq_true rfl) hq)))⟩
  · have K : Kk m nt cc _ := ⟨hm, hG, hp, fM h0 3 1540 h rfl⟩
    obtain ⟨q, hq⟩ := H K (go_n6_4 a m) (fun _ _ _ _ => rfl) 11 (2 : Nat) (16 : Nat) (2 : Nat) (11 : Nat) (by decide) (by decide) (by decide)
    exact ⟨_, (K.rd rfl (go_r6_4_1 a m) (K.rd rfl (go_r6_4_2 a m) (TR_wkB hG (wk3 2 2 11) (.same (.same (.same (.same (.same (.same (wkc 16))))))) (Nat.le_of_ble_eq_true rfl) (Nat.le_of_ble_eq_true rfl) hq)))⟩
  · have K : Kk m nt cc _ := ⟨hm, hG, hp, fM h0 4 2052 h rfl⟩
    obtain ⟨q, hq⟩ := H K (go_n6_5 a m) (fun _ _ _ _ => rfl) 11 (2 : Nat) (16 : Nat) (1 : Nat) (11 : Nat) (by decide) (by decide) (by decide)
    exact ⟨_, (K.rd rfl (go_r6_5_1 a m) (K.rd rfl (go_r6_5_2 a m) (TR_wkB hG (wk3 2 1 11) (.same (.same (.same (.same (.same (.same (wkc 16))))))) (Nat.le_of_ble_eq_true rfl) (Nat.le_of_ble_eq_true rfl) hq)))⟩
  · have K : Kk m nt cc _ := ⟨hm, hG, hp, fM h0 5 2564 h rfl⟩
    obtain ⟨q, hq⟩ := H K (go_n6_6 a m) (fun _ _ _ _ => rfl) 12 (1 : Nat) (14 : Nat) (6 : Nat) (11 : Nat) (by decide) (by decide) (by decide)
    exact ⟨_, (K.rd rfl (go_r6_6_1 a m) (TR_wkB hG (wk3 1 6 11) (.same (.same (.same (.same (.same (.same (wkc 14))))))) (Nat.le_of_ble_eq_true rfl) (Nat.le_of_ble_eq_true rfl) hq))⟩
theorem kw7 (hG : fun6.G.length ≤ 64) (x y : X) (Q q) (h : TR Tryz.prog cx6 nt cc (W7_7 a m x Z0 Z1 y) Q q) : TR Tryz.prog cx6 nt cc (W7_7 a m x (z 0) (z 320) y) Q q := TR_wk (S' := W7_7 a m x Z0 Z1 y) hG (wk2 0 10) rfl rfl (Nat.le_of_ble_eq_true rfl) h
theorem all7 (hm : Tryz.prog.follows .mixedOrders = true) (hG : fun6.G.length ≤ 64) (hp : Pt Tryz.prog fun6 nt cc pB) (h0 : 0 ≤ m) : ∃ q, TR Tryz.prog cx6 nt cc (W7_0 a m (z 0) (z 14) (z 14) (z 448)) (At1 2 (X7 a m (SI 14) Z0 Z1)) q := by
  have h6 : m % 6 = 0 ∨ m % 6 = 1 ∨ m % 6 = 2 ∨ m % 6 = 3 ∨ m % 6 = 4 ∨ m % 6 = 5 := by omega
  have H := @lpG m nt cc (W7_7 a m) (X7 a m) _ _ 14 (go_x7 a m) (kw7 hG) (by decide) (fun _ _ _ => rfl)
  rcases h6 with h | h | h | h | h | h
  · have K : Kk m nt cc _ := ⟨hm, hG, hp, fM h0 0 4 h rfl⟩
    obtain ⟨q, hq⟩ := H K (go_n7_1 a m) (fun _ _ _ _ => rfl) 6 (7 : Nat) (28 : Nat) (1 : Nat) (11 : Nat) (by decide) (by decide) (by decide)
    exact ⟨_, (K.rd rfl (go_r7_1_1 a m) (K.rd rfl (go_r7_1_2 a m) (K.rd rfl (go_r7_1_3 a m) (K.rd rfl (go_r7_1_4 a m) (K.rd rfl (go_r7_1_5 a m) (K.rd rfl (go_r7_1_6 a m) (K.rd rfl (go_r7_1_7 a m) (TR_wkB hG (wk3 7 1 11) (.same (.same (.same (.same (.same (.same (wkc 28))))))) (Nat.le_of_ble_eq_true rfl) (Nat.le_of_ble_eq_true rfl) hq))))))))⟩
  · have K : Kk m nt cc _ := ⟨hm, hG, hp, fM h0 1 516 h rfl⟩
    obtain ⟨q, hq⟩ := H K (go_n7_2 a m) (fun _ _ _ _ => rfl) 9 (4 : Nat) (22 : Nat) (1 : Nat) (11 : Nat) (by decide) (by decide) (by decide)
    exact ⟨_, (K.rd rfl (go_r7_2_1 a m) (K.rd rfl (go_r7_2_2 a m) (K.rd rfl (go_r7_2_3 a m) (K.rd rfl (go_r7_2_4 a m) (TR_wkB hG (wk3 4 1 11) (.same (.same (.same (.same (.same (.same (wkc 22))))))) (Nat.le_of_ble_eq_true rfl) (Nat.le_of_ble_eq_true rfl) hq)))))⟩
  · have K : Kk m nt cc _ := ⟨hm, hG, hp, fM h0 2 1028 h rfl⟩
    obtain ⟨q, hq⟩ := H K (go_n7_3 a m) (fun _ _ _ _ => rfl) 10 (3 : Nat) (20 : Nat) (1 : Nat) (11 : Nat) (by decide) (by decide) (by decide)
    exact ⟨_, (K.rd rfl (go_r7_3_1 a m) (K.rd rfl (go_r7_3_2 a m) (K.rd rfl (go_r7_3_3 a m) (TR_wkB hG (wk3 3 1 11) (.same (.same (.same (.same (.same (.same (wkc 20))))))) (Nat.le_of_ble_eq_true rfl) (Nat.le_of_ble_eq_true rfl) hq))))⟩
  · have K : Kk m nt cc _ := ⟨hm, hG, hp, fM h0 3 1540 h rfl⟩
    obtain ⟨q, hq⟩ := H K (go_n7_4 a m) (fun _ _ _ _ => rfl) 11 (2 : Nat) (18 : Nat) (3 : Nat) (11 : Nat) (by decide) (by decide) (by decide)
    exact ⟨_, (K.rd rfl (go_r7_4_1 a m) (K.rd rfl (go_r7_4_2 a m) (TR_wkB hG (wk3 2 3 11) (.same (.same (.same (.same (.same (.same (wkc 18))))))) (Nat.le_of_ble_eq_true rfl) (Nat.le_of_ble_eq_true rfl) hq)))⟩
  · have K : Kk m nt cc _ := ⟨hm, hG, hp, fM h0 4 2052 h rfl⟩
    obtain ⟨q, hq⟩ := H K (go_n7_5 a m) (fun _ _ _ _ => rfl) 11 (2 : Nat) (18 : Nat) (2 : Nat) (11 : Nat) (by decide) (by decide) (by decide)
    exact ⟨_, (K.rd rfl (go_r7_5_1 a m) (K.rd rfl (go_r7_5_2 a m) (TR_wkB hG (wk3 2 2 11) (.same (.same (.same (.same (.same (.same (wkc 18))))))) (Nat.le_of_ble_eq_true rfl) (Nat.le_of_ble_eq_true rfl) hq)))⟩
  · have K : Kk m nt cc _ := ⟨hm, hG, hp, fM h0 5 2564 h rfl⟩
    obtain ⟨q, hq⟩ := H K (go_n7_6 a m) (fun _ _ _ _ => rfl) 11 (2 : Nat) (18 : Nat) (1 : Nat) (11 : Nat) (by decide) (by decide) (by decide)
    exact ⟨_, (K.rd rfl (go_r7_6_1 a m) (K.rd rfl (go_r7_6_2 a m) (TR_wkB hG (wk3 2 1 11) (.same (.same (.same (.same (.same (.same (wkc 18))))))) (Nat.le_of_ble_eq_true rfl) (Nat.le_of_ble_eq_true rfl) hq)))⟩
theorem kw8 (hG : fun6.G.length ≤ 64) (x y : X) (Q q) (h : TR Tryz.prog cx6 nt cc (W8_8 a m x Z0 Z1 y) Q q) : TR Tryz.prog cx6 nt cc (W8_8 a m x (z 0) (z 320) y) Q q := TR_wk (S' := W8_8 a m x Z0 Z1 y) hG (wk2 0 10) rfl rfl (Nat.le_of_ble_eq_true rfl) h
theorem all8 (hm : Tryz.prog.follows .mixedOrders = true) (hG : fun6.G.length ≤ 64) (hp : Pt Tryz.prog fun6 nt cc pB) (h0 : 0 ≤ m) : ∃ q, TR Tryz.prog cx6 nt cc (W8_0 a m (z 0) (z 14) (z 14) (z 512)) (At1 2 (X8 a m (SI 14) Z0 Z1)) q := by
  have h6 : m % 6 = 0 ∨ m % 6 = 1 ∨ m % 6 = 2 ∨ m % 6 = 3 ∨ m % 6 = 4 ∨ m % 6 = 5 := by omega
  have H := @lpG m nt cc (W8_8 a m) (X8 a m) _ _ 16 (go_x8 a m) (kw8 hG) (by decide) (fun _ _ _ => rfl)
  rcases h6 with h | h | h | h | h | h
  · have K : Kk m nt cc _ := ⟨hm, hG, hp, fM h0 0 4 h rfl⟩
    obtain ⟨q, hq⟩ := H K (go_n8_1 a m) (fun _ _ _ _ => rfl) 5 (8 : Nat) (32 : Nat) (1 : Nat) (11 : Nat) (by decide) (by decide) (by decide)
    exact ⟨_, (K.rd rfl (go_r8_1_1 a m) (K.rd rfl (go_r8_1_2 a m) (K.rd rfl (go_r8_1_3 a m) (K.rd rfl (go_r8_1_4 a m) (K.rd rfl (go_r8_1_5 a m) (K.rd rfl (go_r8_1_6 a m) (K.rd rfl (go_r8_1_7 a m) (K.rd rfl (go_r8_1_8 a m) (TR_wkB hG (wk3 8 1 11) (.same (.same (.same (.same (.same (.same (wkc 32))))))) (Nat.le_of_ble_eq_true rfl) (Nat.le_of_ble_eq_true rfl) hq)))))))))⟩
  · have K : Kk m nt cc _ := ⟨hm, hG, hp, fM h0 1 516 h rfl⟩
    obtain ⟨q, hq⟩ := H K (go_n8_2 a m) (fun _ _ _ _ => rfl) 9 (4 : Nat) (24 : Nat) (2 : Nat) (11 : Nat) (by decide) (by decide) (by decide)
    exact ⟨_, (K.rd rfl (go_r8_2_1 a m) (K.rd rfl (go_r8_2_2 a m) (K.rd rfl (go_r8_2_3 a m) (K.rd rfl (go_r8_2_4 a m) (TR_wkB hG (wk3 4 2 11) (.same (.same (.same (.same (.same (.same (wkc 24))))))) (Nat.le_of_ble_eq_true rfl) (Nat.le_of_ble_eq_true rfl) hq)))))⟩
  · have K : Kk m nt cc _ := ⟨hm, hG, hp, fM h0 2 1028 h rfl⟩
    obtain ⟨q, hq⟩ := H K (go_n8_3 a m) (fun _ _ _ _ => rfl) 10 (3 : Nat) (22 : Nat) (2 : Nat) (11 : Nat) (by decide) (by decide) (by decide)
    exact ⟨_, (K.rd rfl (go_r8_3_1 a m) (K.rd rfl (go_r8_3_2 a m) (K.rd rfl (go_r8_3_3 a m) (TR_wkB hG (wk3 3 2 11) (.same (.same (.same (.same (.same (.same (wkc 22))))))) (Nat.le_of_ble_eq_true rfl) (Nat.le_of_ble_eq_true rfl) hq))))⟩
  · have K : Kk m nt cc _ := ⟨hm, hG, hp, fM h0 3 1540 h rfl⟩
    obtain ⟨q, hq⟩ := H K (go_n8_4 a m) (fun _ _ _ _ => rfl) 11 (2 : Nat) (20 : Nat) (4 : Nat) (11 : Nat) (by decide) (by decide) (by decide)
    exact ⟨_, (K.rd rfl (go_r8_4_1 a m) (K.rd rfl (go_r8_4_2 a m) (TR_wkB hG (wk3 2 4 11) (.same (.same (.same (.same (.same (.same (wkc 20))))))) (Nat.le_of_ble_eq_true rfl) (Nat.le_of_ble_eq_true rfl) hq)))⟩
  · have K : Kk m nt cc _ := ⟨hm, hG, hp, fM h0 4 2052 h rfl⟩
    obtain ⟨q, hq⟩ := H K (go_n8_5 a m) (fun _ _ _ _ => rfl) 11 (2 : Nat) (20 : Nat) (3 : Nat) (11 : Nat) (by decide) (by decide) (by decide)
    exact ⟨_, (K.rd rfl (go_r8_5_1 a m) (K.rd rfl (go_r8_5_2 a m) (TR_wkB hG (wk3 2 3 11) (.same (.same (.same (.same (.same (.same (wkc 20))))))) (Nat.le_of_ble_eq_true rfl) (Nat.le_of_ble_eq_true rfl) hq)))⟩
  · have K : Kk m nt cc _ := ⟨hm, hG, hp, fM h0 5 2564 h rfl⟩
    obtain ⟨q, hq⟩ := H K (go_n8_6 a m) (fun _ _ _ _ => rfl) 11 (2 : Nat) (20 : Nat) (2 : Nat) (11 : Nat) (by decide) (by decide) (by decide)
    exact ⟨_, (K.rd rfl (go_r8_6_1 a m) (K.rd rfl (go_r8_6_2 a m) (TR_wkB hG (wk3 2 2 11) (.same (.same (.same (.same (.same (.same (wkc 20))))))) (Nat.le_of_ble_eq_true rfl) (Nat.le_of_ble_eq_true rfl) hq)))⟩
theorem kw9 (hG : fun6.G.length ≤ 64) (x y : X) (Q q) (h : TR Tryz.prog cx6 nt cc (W9_9 a m x Z0 Z1 y) Q q) : TR Tryz.prog cx6 nt cc (W9_9 a m x (z 0) (z 320) y) Q q := TR_wk (S' := W9_9 a m x Z0 Z1 y) hG (wk2 0 10) rfl rfl (Nat.le_of_ble_eq_true rfl) h
theorem all9 (hm : Tryz.prog.follows .mixedOrders = true) (hG : fun6.G.length ≤ 64) (hp : Pt Tryz.prog fun6 nt cc pB) (h0 : 0 ≤ m) : ∃ q, TR Tryz.prog cx6 nt cc (W9_0 a m (z 0) (z 14) (z 14) (z 576)) (At1 2 (X9 a m (SI 14) Z0 Z1)) q := by
  have h6 : m % 6 = 0 ∨ m % 6 = 1 ∨ m % 6 = 2 ∨ m % 6 = 3 ∨ m % 6 = 4 ∨ m % 6 = 5 := by omega
  have H := @lpG m nt cc (W9_9 a m) (X9 a m) _ _ 18 (go_x9 a m) (kw9 hG) (by decide) (fun _ _ _ => rfl)
  rcases h6 with h | h | h | h | h | h
  · have K : Kk m nt cc _ := ⟨hm, hG, hp, fM h0 0 4 h rfl⟩
    obtain ⟨q, hq⟩ := H K (go_n9_1 a m) (fun _ _ _ _ => rfl) 4 (9 : Nat) (36 : Nat) (1 : Nat) (11 : Nat) (by decide) (by decide) (by decide)
    exact ⟨_, (K.rd rfl (go_r9_1_1 a m) (K.rd rfl (go_r9_1_2 a m) (K.rd rfl (go_r9_1_3 a m) (K.rd rfl (go_r9_1_4 a m) (K.rd rfl (go_r9_1_5 a m) (K.rd rfl (go_r9_1_6 a m) (K.rd rfl (go_r9_1_7 a m) (K.rd rfl (go_r9_1_8 a m) (K.rd rfl (go_r9_1_9 a m) (TR_wkB hG (wk3 9 1 11) (.same (.same (.same (.same (.same (.same (wkc 36))))))) (Nat.le_of_ble_eq_true rfl) (Nat.le_of_ble_eq_true rfl) hq))))))))))⟩
  · have K : Kk m nt cc _ := ⟨hm, hG, hp, fM h0 1 516 h rfl⟩
    obtain ⟨q, hq⟩ := H K (go_n9_2 a m) (fun _ _ _ _ => rfl) 8 (5 : Nat) (28 : Nat) (1 : Nat) (11 : Nat) (by decide) (by decide) (by decide)
    exact ⟨_, (K.rd rfl (go_r9_2_1 a m) (K.rd rfl (go_r9_2_2 a m) (K.rd rfl (go_r9_2_3 a m) (K.rd rfl (go_r9_2_4 a m) (K.rd rfl (go_r9_2_5 a m) (TR_wkB hG (wk3 5 1 11) (.same (.same (.same (.same (.same (.same (wkc 28))))))) (Nat.le_of_ble_eq_true rfl) (Nat.le_of_ble_eq_true rfl) hq))))))⟩
  · have K : Kk m nt cc _ := ⟨hm, hG, hp, fM h0 2 1028 h rfl⟩
    obtain ⟨q, hq⟩ := H K (go_n9_3 a m) (fun _ _ _ _ => rfl) 10 (3 : Nat) (24 : Nat) (3 : Nat) (11 : Nat) (by decide) (by decide) (by decide)
    exact ⟨_, (K.rd rfl (go_r9_3_1 a m) (K.rd rfl (go_r9_3_2 a m) (K.rd rfl (go_r9_3_3 a m) (TR_wkB hG (wk3 3 3 11) (.same (.same (.same (.same (.same (.same (wkc 24))))))) (Nat.le_of_ble_eq_true rfl) (Nat.le_of_ble_eq_true rfl) hq))))⟩
  · have K : Kk m nt cc _ := ⟨hm, hG, hp, fM h0 3 1540 h rfl⟩
    obtain ⟨q, hq⟩ := H K (go_n9_4 a m) (fun _ _ _ _ => rfl) 10 (3 : Nat) (24 : Nat) (1 : Nat) (11 : Nat) (by decide) (by decide) (by decide)
    exact ⟨_, (K.rd rfl (go_r9_4_1 a m) (K.rd rfl (go_r9_4_2 a m) (K.rd rfl (go_r9_4_3 a m) (TR_wkB hG (wk3 3 1 11) (.same (.same (.same (.same (.same (.same (wkc 24))))))) (Nat.le_of_ble_eq_true rfl) (Nat.le_of_ble_eq_true rfl) hq))))⟩
  · have K : Kk m nt cc _ := ⟨hm, hG, hp, fM h0 4 2052 h rfl⟩
    obtain ⟨q, hq⟩ := H K (go_n9_5 a m) (fun _ _ _ _ => rfl) 11 (2 : Nat) (22 : Nat) (4 : Nat) (11 : Nat) (by decide) (by decide) (by decide)
    exact ⟨_, (K.rd rfl (go_r9_5_1 a m) (K.rd rfl (go_r9_5_2 a m) (TR_wkB hG (wk3 2 4 11) (.same (.same (.same (.same (.same (.same (wkc 22))))))) (Nat.le_of_ble_eq_true rfl) (Nat.le_of_ble_eq_true rfl) hq)))⟩
  · have K : Kk m nt cc _ := ⟨hm, hG, hp, fM h0 5 2564 h rfl⟩
    obtain ⟨q, hq⟩ := H K (go_n9_6 a m) (fun _ _ _ _ => rfl) 11 (2 : Nat) (22 : Nat) (3 : Nat) (11 : Nat) (by decide) (by decide) (by decide)
    exact ⟨_, (K.rd rfl (go_r9_6_1 a m) (K.rd rfl (go_r9_6_2 a m) (TR_wkB hG (wk3 2 3 11) (.same (.same (.same (.same (.same (.same (wkc 22))))))) (Nat.le_of_ble_eq_true rfl) (Nat.le_of_ble_eq_true rfl) hq)))⟩
theorem kw10 (hG : fun6.G.length ≤ 64) (x y : X) (Q q) (h : TR Tryz.prog cx6 nt cc (W10_10 a m x Z0 Z1 y) Q q) : TR Tryz.prog cx6 nt cc (W10_10 a m x (z 0) (z 320) y) Q q := TR_wk (S' := W10_10 a m x Z0 Z1 y) hG (wk2 0 10) rfl rfl (Nat.le_of_ble_eq_true rfl) h
theorem all10 (hm : Tryz.prog.follows .mixedOrders = true) (hG : fun6.G.length ≤ 64) (hp : Pt Tryz.prog fun6 nt cc pB) (h0 : 0 ≤ m) : ∃ q, TR Tryz.prog cx6 nt cc (W10_0 a m (z 0) (z 14) (z 14) (z 640)) (At1 2 (X10 a m (SI 14) Z0 Z1)) q := by
  have h6 : m % 6 = 0 ∨ m % 6 = 1 ∨ m % 6 = 2 ∨ m % 6 = 3 ∨ m % 6 = 4 ∨ m % 6 = 5 := by omega
  have H := @lpG m nt cc (W10_10 a m) (X10 a m) _ _ 20 (go_x10 a m) (kw10 hG) (by decide) (fun _ _ _ => rfl)
  rcases h6 with h | h | h | h | h | h
  · have K : Kk m nt cc _ := ⟨hm, hG, hp, fM h0 0 4 h rfl⟩
    obtain ⟨q, hq⟩ := H K (go_n10_1 a m) (fun _ _ _ _ => rfl) 3 (10 : Nat) (40 : Nat) (1 : Nat) (11 : Nat) (by decide) (by decide) (by decide)
    exact ⟨_, (K.rd rfl (go_r10_1_1 a m) (K.rd rfl (go_r10_1_2 a m) (K.rd rfl (go_r10_1_3 a m) (K.rd rfl (go_r10_1_4 a m) (K.rd rfl (go_r10_1_5 a m) (K.rd rfl (go_r10_1_6 a m) (K.rd rfl (go_r10_1_7 a m) (K.rd rfl (go_r10_1_8 a m) (K.rd rfl (go_r10_1_9 a m) (K.rd rfl (go_r10_1_10 a m) (TR_wkB hG (wk3 10 1 11) (.same (.same (.same (.same (.same (.same (wkc 40))))))) (Nat.le_of_ble_eq_true rfl) (Nat.le_of_ble_eq_true rfl) hq)))))))))))⟩
  · have K : Kk m nt cc _ := ⟨hm, hG, hp, fM h0 1 516 h rfl⟩
    obtain ⟨q, hq⟩ := H K (go_n10_2 a m) (fun _ _ _ _ => rfl) 8 (5 : Nat) (30 : Nat) (2 : Nat) (11 : Nat) (by decide) (by decide) (by decide)
    exact ⟨_, (K.rd rfl (go_r10_2_1 a m) (K.rd rfl (go_r10_2_2 a m) (K.rd rfl (go_r10_2_3 a m) (K.rd rfl (go_r10_2_4 a m) (K.rd rfl (go_r10_2_5 a m) (TR_wkB hG (wk3 5 2 11) (.same (.same (.same (.same (.same (.same (wkc 30))))))) (Nat.le_of_ble_eq_true rfl) (Nat.le_of_ble_eq_true rfl) hq))))))⟩
  · have K : Kk m nt cc _ := ⟨hm, hG, hp, fM h0 2 1028 h rfl⟩
    obtain ⟨q, hq⟩ := H K (go_n10_3 a m) (fun _ _ _ _ => rfl) 9 (4 : Nat) (28 : Nat) (1 : Nat) (11 : Nat) (by decide) (by decide) (by decide)
    exact ⟨_, (K.rd rfl (go_r10_3_1 a m) (K.rd rfl (go_r10_3_2 a m) (K.rd rfl (go_r10_3_3 a m) (K.rd rfl (go_r10_3_4 a m) (TR_wkB hG (wk3 4 1 11) (.same (.same (.same (.same (.same (.same (wkc 28))))))) (Nat.le_of_ble_eq_true rfl) (Nat.le_of_ble_eq_true rfl) hq)))))⟩
  · have K : Kk m nt cc _ := ⟨hm, hG, hp, fM h0 3 1540 h rfl⟩
    obtain ⟨q, hq⟩ := H K (go_n10_4 a m) (fun _ _ _ _ => rfl) 10 (3 : Nat) (26 : Nat) (2 : Nat) (11 : Nat) (by decide) (by decide) (by decide)
    exact ⟨_, (K.rd rfl (go_r10_4_1 a m) (K.rd rfl (go_r10_4_2 a m) (K.rd rfl (go_r10_4_3 a m) (TR_wkB hG (wk3 3 2 11) (.same (.same (.same (.same (.same (.same (wkc 26))))))) (Nat.le_of_ble_eq_true rfl) (Nat.le_of_ble_eq_true rfl) hq))))⟩
  · have K : Kk m nt cc _ := ⟨hm, hG, hp, fM h0 4 2052 h rfl⟩
    obtain ⟨q, hq⟩ := H K (go_n10_5 a m) (fun _ _ _ _ => rfl) 11 (2 : Nat) (24 : Nat) (5 : Nat) (11 : Nat) (by decide) (by decide) (by decide)
    exact ⟨_, (K.rd rfl (go_r10_5_1 a m) (K.rd rfl (go_r10_5_2 a m) (TR_wkB hG (wk3 2 5 11) (.same (.same (.same (.same (.same (.same (wkc 24))))))) (Nat.le_of_ble_eq_true rfl) (Nat.le_of_ble_eq_true rfl) hq)))⟩
  · have K : Kk m nt cc _ := ⟨hm, hG, hp, fM h0 5 2564 h rfl⟩
    obtain ⟨q, hq⟩ := H K (go_n10_6 a m) (fun _ _ _ _ => rfl) 11 (2 : Nat) (24 : Nat) (4 : Nat) (11 : Nat) (by decide) (by decide) (by decide)
    exact ⟨_, (K.rd rfl (go_r10_6_1 a m) (K.rd rfl (go_r10_6_2 a m) (TR_wkB hG (wk3 2 4 11) (.same (.same (.same (.same (.same (.same (wkc 24))))))) (Nat.le_of_ble_eq_true rfl) (Nat.le_of_ble_eq_true rfl) hq)))⟩
theorem kw11 (hG : fun6.G.length ≤ 64) (x y : X) (Q q) (h : TR Tryz.prog cx6 nt cc (W11_11 a m x Z0 Z1 y) Q q) : TR Tryz.prog cx6 nt cc (W11_11 a m x (z 0) (z 320) y) Q q := TR_wk (S' := W11_11 a m x Z0 Z1 y) hG (wk2 0 10) rfl rfl (Nat.le_of_ble_eq_true rfl) h
theorem all11 (hm : Tryz.prog.follows .mixedOrders = true) (hG : fun6.G.length ≤ 64) (hp : Pt Tryz.prog fun6 nt cc pB) (h0 : 0 ≤ m) : ∃ q, TR Tryz.prog cx6 nt cc (W11_0 a m (z 0) (z 14) (z 14) (z 704)) (At1 2 (X11 a m (SI 14) Z0 Z1)) q := by
  have h6 : m % 6 = 0 ∨ m % 6 = 1 ∨ m % 6 = 2 ∨ m % 6 = 3 ∨ m % 6 = 4 ∨ m % 6 = 5 := by omega
  have H := @lpG m nt cc (W11_11 a m) (X11 a m) _ _ 22 (go_x11 a m) (kw11 hG) (by decide) (fun _ _ _ => rfl)
  rcases h6 with h | h | h | h | h | h
  · have K : Kk m nt cc _ := ⟨hm, hG, hp, fM h0 0 4 h rfl⟩
    obtain ⟨q, hq⟩ := H K (go_n11_1 a m) (fun _ _ _ _ => rfl) 2 (11 : Nat) (44 : Nat) (1 : Nat) (11 : Nat) (by decide) (by decide) (by decide)
    exact ⟨_, (K.rd rfl (go_r11_1_1 a m) (K.rd rfl (go_r11_1_2 a m) (K.rd rfl (go_r11_1_3 a m) (K.rd rfl (go_r11_1_4 a m) (K.rd rfl (go_r11_1_5 a m) (K.rd rfl (go_r11_1_6 a m) (K.rd rfl (go_r11_1_7 a m) (K.rd rfl (go_r11_1_8 a m) (K.rd rfl (go_r11_1_9 a m) (K.rd rfl (go_r11_1_10 a m) (K.rd rfl (go_r11_1_11 a m) (TR_wkB hG (wk3 11 1 11) (.same (.same (.same (.same (.same (.same (wkc 44))))))) (Nat.le_of_ble_eq_true rfl) (Nat.le_of_ble_eq_true rfl) hq))))))))))))⟩
  · have K : Kk m nt cc _ := ⟨hm, hG, hp, fM h0 1 516 h rfl⟩
    obtain ⟨q, hq⟩ := H K (go_n11_2 a m) (fun _ _ _ _ => rfl) 7 (6 : Nat) (34 : Nat) (1 : Nat) (11 : Nat) (by decide) (by decide) (by decide)
    exact ⟨_, (K.rd rfl (go_r11_2_1 a m) (K.rd rfl (go_r11_2_2 a m) (K.rd rfl (go_r11_2_3 a m) (K.rd rfl (go_r11_2_4 a m) (K.rd rfl (go_r11_2_5 a m) (K.rd rfl (go_r11_2_6 a m) (TR_wkB hG (wk3 6 1 11) (.same (.same (.same (.same (.same (.same (wkc 34))))))) (Nat.le_of_ble_eq_true rfl) (Nat.le_of_ble_eq_true rfl) hq)))))))⟩
  · have K : Kk m nt cc _ := ⟨hm, hG, hp, fM h0 2 1028 h rfl⟩
    obtain ⟨q, hq⟩ := H K (go_n11_3 a m) (fun _ _ _ _ => rfl) 9 (4 : Nat) (30 : Nat) (2 : Nat) (11 : Nat) (by decide) (by decide) (by decide)
    exact ⟨_, (K.rd rfl (go_r11_3_1 a m) (K.rd rfl (go_r11_3_2 a m) (K.rd rfl (go_r11_3_3 a m) (K.rd rfl (go_r11_3_4 a m) (TR_wkB hG (wk3 4 2 11) (.same (.same (.same (.same (.same (.same (wkc 30))))))) (Nat.le_of_ble_eq_true rfl) (Nat.le_of_ble_eq_true rfl) hq)))))⟩
  · have K : Kk m nt cc _ := ⟨hm, hG, hp, fM h0 3 1540 h rfl⟩
    obtain ⟨q, hq⟩ := H K (go_n11_4 a m) (fun _ _ _ _ => rfl) 10 (3 : Nat) (28 : Nat) (3 : Nat) (11 : Nat) (by decide) (by decide) (by decide)
    exact ⟨_, (K.rd rfl (go_r11_4_1 a m) (K.rd rfl (go_r11_4_2 a m) (K.rd rfl (go_r11_4_3 a m) (TR_wkB hG (wk3 3 3 11) (.same (.same (.same (.same (.same (.same (wkc 28))))))) (Nat.le_of_ble_eq_true rfl) (Nat.le_of_ble_eq_true rfl) hq))))⟩
  · have K : Kk m nt cc _ := ⟨hm, hG, hp, fM h0 4 2052 h rfl⟩
    obtain ⟨q, hq⟩ := H K (go_n11_5 a m) (fun _ _ _ _ => rfl) 10 (3 : Nat) (28 : Nat) (1 : Nat) (11 : Nat) (by decide) (by decide) (by decide)
    exact ⟨_, (K.rd rfl (go_r11_5_1 a m) (K.rd rfl (go_r11_5_2 a m) (K.rd rfl (go_r11_5_3 a m) (TR_wkB hG (wk3 3 1 11) (.same (.same (.same (.same (.same (.same (wkc 28))))))) (Nat.le_of_ble_eq_true rfl) (Nat.le_of_ble_eq_true rfl) hq))))⟩
  · have K : Kk m nt cc _ := ⟨hm, hG, hp, fM h0 5 2564 h rfl⟩
    obtain ⟨q, hq⟩ := H K (go_n11_6 a m) (fun _ _ _ _ => rfl) 11 (2 : Nat) (26 : Nat) (5 : Nat) (11 : Nat) (by decide) (by decide) (by decide)
    exact ⟨_, (K.rd rfl (go_r11_6_1 a m) (K.rd rfl (go_r11_6_2 a m) (TR_wkB hG (wk3 2 5 11) (.same (.same (.same (.same (.same (.same (wkc 26))))))) (Nat.le_of_ble_eq_true rfl) (Nat.le_of_ble_eq_true rfl) hq)))⟩
theorem kw12 (hG : fun6.G.length ≤ 64) (x y : X) (Q q) (h : TR Tryz.prog cx6 nt cc (W12_12 a m x Z0 Z1 y) Q q) : TR Tryz.prog cx6 nt cc (W12_12 a m x (z 0) (z 320) y) Q q := TR_wk (S' := W12_12 a m x Z0 Z1 y) hG (wk2 0 10) rfl rfl (Nat.le_of_ble_eq_true rfl) h
theorem all12 (hm : Tryz.prog.follows .mixedOrders = true) (hG : fun6.G.length ≤ 64) (hp : Pt Tryz.prog fun6 nt cc pB) (h0 : 0 ≤ m) : ∃ q, TR Tryz.prog cx6 nt cc (W12_0 a m (z 0) (z 14) (z 14) (z 768)) (At1 2 (X12 a m (SI 14) Z0 Z1)) q := by
  have h6 : m % 6 = 0 ∨ m % 6 = 1 ∨ m % 6 = 2 ∨ m % 6 = 3 ∨ m % 6 = 4 ∨ m % 6 = 5 := by omega
  have H := @lpG m nt cc (W12_12 a m) (X12 a m) _ _ 24 (go_x12 a m) (kw12 hG) (by decide) (fun _ _ _ => rfl)
  rcases h6 with h | h | h | h | h | h
  · have K : Kk m nt cc _ := ⟨hm, hG, hp, fM h0 0 4 h rfl⟩
    obtain ⟨q, hq⟩ := H K (go_n12_1 a m) (fun _ _ _ _ => rfl) 1 (12 : Nat) (48 : Nat) (1 : Nat) (11 : Nat) (by decide) (by decide) (by decide)
    exact ⟨_, (K.rd rfl (go_r12_1_1 a m) (K.rd rfl (go_r12_1_2 a m) (K.rd rfl (go_r12_1_3 a m) (K.rd rfl (go_r12_1_4 a m) (K.rd rfl (go_r12_1_5 a m) (K.rd rfl (go_r12_1_6 a m) (K.rd rfl (go_r12_1_7 a m) (K.rd rfl (go_r12_1_8 a m) (K.rd rfl (go_r12_1_9 a m) (K.rd rfl (go_r12_1_10 a m) (K.rd rfl (go_r12_1_11 a m) (K.rd rfl (go_r12_1_12 a m) (TR_wkB hG (wk3 12 1 11) (.same (.same (.same (.same (.same (.same (wkc 48))))))) (Nat.le_of_ble_eq_true rfl) (Nat.le_of_ble_eq_true rfl) hq)))))))))))))⟩
  · have K : Kk m nt cc _ := ⟨hm, hG, hp, fM h0 1 516 h rfl⟩
    obtain ⟨q, hq⟩ := H K (go_n12_2 a m) (fun _ _ _ _ => rfl) 7 (6 : Nat) (36 : Nat) (2 : Nat) (11 : Nat) (by decide) (by decide) (by decide)
    exact ⟨_, (K.rd rfl (go_r12_2_1 a m) (K.rd rfl (go_r12_2_2 a m) (K.rd rfl (go_r12_2_3 a m) (K.rd rfl (go_r12_2_4 a m) (K.rd rfl (go_r12_2_5 a m) (K.rd rfl (go_r12_2_6 a m) (TR_wkB hG (wk3 6 2 11) (.same (.same (.same (.same (.same (.same (wkc 36))))))) (Nat.le_of_ble_eq_true rfl) (Nat.le_of_ble_eq_true rfl) hq)))))))⟩
  · have K : Kk m nt cc _ := ⟨hm, hG, hp, fM h0 2 1028 h rfl⟩
    obtain ⟨q, hq⟩ := H K (go_n12_3 a m) (fun _ _ _ _ => rfl) 9 (4 : Nat) (32 : Nat) (3 : Nat) (11 : Nat) (by decide) (by decide) (by decide)
    exact ⟨_, (K.rd rfl (go_r12_3_1 a m) (K.rd rfl (go_r12_3_2 a m) (K.rd rfl (go_r12_3_3 a m) (K.rd rfl (go_r12_3_4 a m) (TR_wkB hG (wk3 4 3 11) (.same (.same (.same (.same (.same (.same (wkc 32))))))) (Nat.le_of_ble_eq_true rfl) (Nat.le_of_ble_eq_true rfl) hq)))))⟩
  · have K : Kk m nt cc _ := ⟨hm, hG, hp, fM h0 3 1540 h rfl⟩
    obtain ⟨q, hq⟩ := H K (go_n12_4 a m) (fun _ _ _ _ => rfl) 10 (3 : Nat) (30 : Nat) (4 : Nat) (11 : Nat) (by decide) (by decide) (by decide)
    exact ⟨_, (K.rd rfl (go_r12_4_1 a m) (K.rd rfl (go_r12_4_2 a m) (K.rd rfl (go_r12_4_3 a m) (TR_wkB hG (wk3 3 4 11) (.same (.same (.same (.same (.same (.same (wkc 30))))))) (Nat.le_of_ble_eq_true rfl) (Nat.le_of_ble_eq_true rfl) hq))))⟩
  · have K : Kk m nt cc _ := ⟨hm, hG, hp, fM h0 4 2052 h rfl⟩
    obtain ⟨q, hq⟩ := H K (go_n12_5 a m) (fun _ _ _ _ => rfl) 10 (3 : Nat) (30 : Nat) (2 : Nat) (11 : Nat) (by decide) (by decide) (by decide)
    exact ⟨_, (K.rd rfl (go_r12_5_1 a m) (K.rd rfl (go_r12_5_2 a m) (K.rd rfl (go_r12_5_3 a m) (TR_wkB hG (wk3 3 2 11) (.same (.same (.same (.same (.same (.same (wkc 30))))))) (Nat.le_of_ble_eq_true rfl) (Nat.le_of_ble_eq_true rfl) hq))))⟩
  · have K : Kk m nt cc _ := ⟨hm, hG, hp, fM h0 5 2564 h rfl⟩
    obtain ⟨q, hq⟩ := H K (go_n12_6 a m) (fun _ _ _ _ => rfl) 11 (2 : Nat) (28 : Nat) (6 : Nat) (11 : Nat) (by decide) (by decide) (by decide)
    exact ⟨_, (K.rd rfl (go_r12_6_1 a m) (K.rd rfl (go_r12_6_2 a m) (TR_wkB hG (wk3 2 6 11) (.same (.same (.same (.same (.same (.same (wkc 28))))))) (Nat.le_of_ble_eq_true rfl) (Nat.le_of_ble_eq_true rfl) hq)))⟩
end
theorem fn6 (a m : Int) (ha : 0 ≤ a) (ha1 : a < 256) (h0 : 0 ≤ m) (h1 : m < 256) (w : World) : Calls Tryz.prog 6 #[.int .u8 a, .int .u8 m] w fun e w' => e = .returned (.bool true) ∧ Go.RowKit.Below w.heap.size w w' := by
  have hv : denL Vz [S8 a, S8 m] #[Value.int .u8 a, .int .u8 m].toList := denL_cons.2 ⟨_, _, rfl, (den12 (x := S8 a) (.inr rfl)).2 ⟨rfl, rfl⟩, denL_cons.2 ⟨_, [], rfl, (den12 (x := S8 m) (.inr rfl)).2 ⟨rfl, rfl⟩, denL_nil.2 rfl⟩⟩
  have hE0 : okF fun6 = true := by kernel_rfl
  refine law_TE cl31_ok ok6 hE0 (xs := [S8 a, S8 m]) rfl (fun c0 nt hp hm hG => ?_) hv w trivial
  have e0 : fun6.sc = .seq (sL fun6.sc) (sR fun6.sc) := by kernel_rfl
  have e1 : (sR fun6.sc) = .seq (sL (sR fun6.sc)) (sR (sR fun6.sc)) := by kernel_rfl
  have e2 : (sR (sR fun6.sc)) = .seq (sL (sR (sR fun6.sc))) (sR (sR (sR fun6.sc))) := by kernel_rfl
  have e3 : (sR (sR (sR fun6.sc))) = .seq (sL (sR (sR (sR fun6.sc)))) (sR (sR (sR (sR fun6.sc)))) := by kernel_rfl
  have e4 : (sR (sR (sR (sR fun6.sc)))) = .seq (sL (sR (sR (sR (sR fun6.sc))))) (sR (sR (sR (sR (sR fun6.sc))))) := by kernel_rfl
  have e5 : (sL (sR (sR (sR (sR fun6.sc))))) = .seq (sL (sL (sR (sR (sR (sR fun6.sc)))))) (sR (sL (sR (sR (sR (sR fun6.sc)))))) := by kernel_rfl
  have e6 : (sR (sL (sR (sR (sR (sR fun6.sc)))))) = .block 0 (sB (sR (sL (sR (sR (sR (sR fun6.sc))))))) := by kernel_rfl
  have e7 : (sB (sR (sL (sR (sR (sR (sR fun6.sc))))))) = .loop (sB (sB (sR (sL (sR (sR (sR (sR fun6.sc)))))))) := by kernel_rfl
  obtain ⟨c1, d1, rfl, p0, q0⟩ := hp.sq e0
  obtain ⟨c2, d2, rfl, p1, q1⟩ := q0.sq e1
  obtain ⟨c3, d3, rfl, p2, q2⟩ := q1.sq e2
  obtain ⟨c4, d4, rfl, p3, q3⟩ := q2.sq e3
  obtain ⟨c5, d5, rfl, p4, q4⟩ := q3.sq e4
  obtain ⟨c6, d6, rfl, p5, q5⟩ := p4.sq e5
  obtain ⟨c7, rfl, p6⟩ := q5.bk e6
  obtain ⟨c8, rfl, p7⟩ := p6.lp e7
  refine TE_then (sg cl31_ok hm hG p0 (by kernel_rfl) (mpr (go_a a m) (doneL trivial))) (TE_then (sg cl31_ok hm hG p1 (by kernel_rfl) (mpr (go_b a m) (doneL trivial))) ?_)
  have h13 : a % 13 = 0 ∨ a % 13 = 1 ∨ a % 13 = 2 ∨ a % 13 = 3 ∨ a % 13 = 4 ∨ a % 13 = 5 ∨ a % 13 = 6 ∨ a % 13 = 7 ∨ a % 13 = 8 ∨ a % 13 = 9 ∨ a % 13 = 10 ∨ a % 13 = 11 ∨ a % 13 = 12 := by omega
  rcases h13 with hn | hn | hn | hn | hn | hn | hn | hn | hn | hn | hn | hn | hn
  · obtain ⟨q, hq⟩ := all0 (a := a) hm hG p7 h0
    exact TE_then (sg cl31_ok hm hG p2 (by kernel_rfl) (mpr (go_c0 a m) (doneL ⟨(f_rem 13 6660 u13 (by decide) ha hn (dN8 (m := 0) rfl)), trivial⟩))) (TE_then (sg cl31_ok hm hG p3 (by kernel_rfl) (mpr (go_d0 a m) (doneL trivial))) (TE_then (T_then (sg cl31_ok hm hG p5 (by kernel_rfl) (mpr (go_e0 a m) (doneL trivial))) (T_bl hq)) (sgE cl31_ok hm hG q4 (mpr (go_t0 a m ((0 : Nat) : Int) ((10 : Nat) : Int)) ⟨(f_rem 13 6660 u13 (by decide) ha hn (dN8 (m := 0) rfl)), trivial⟩))))
  · obtain ⟨q, hq⟩ := all1 (a := a) hm hG p7 h0
    exact TE_then (sg cl31_ok hm hG p2 (by kernel_rfl) (mpr (go_c1 a m) (doneL ⟨(f_rem 13 6660 u13 (by decide) ha hn (dN8 (m := 1) rfl)), trivial⟩))) (TE_then (sg cl31_ok hm hG p3 (by kernel_rfl) (mpr (go_d1 a m) (doneL trivial))) (TE_then (T_then (sg cl31_ok hm hG p5 (by kernel_rfl) (mpr (go_e1 a m) (doneL trivial))) (T_bl hq)) (sgE cl31_ok hm hG q4 (mpr (go_t1 a m ((0 : Nat) : Int) ((10 : Nat) : Int)) ⟨(f_rem 13 6660 u13 (by decide) ha hn (dN8 (m := 1) rfl)), trivial⟩))))
  · obtain ⟨q, hq⟩ := all2 (a := a) hm hG p7 h0
    exact TE_then (sg cl31_ok hm hG p2 (by kernel_rfl) (mpr (go_c2 a m) (doneL ⟨(f_rem 13 6660 u13 (by decide) ha hn (dN8 (m := 2) rfl)), trivial⟩))) (TE_then (sg cl31_ok hm hG p3 (by kernel_rfl) (mpr (go_d2 a m) (doneL trivial))) (TE_then (T_then (sg cl31_ok hm hG p5 (by kernel_rfl) (mpr (go_e2 a m) (doneL trivial))) (T_bl hq)) (sgE cl31_ok hm hG q4 (mpr (go_t2 a m ((0 : Nat) : Int) ((10 : Nat) : Int)) ⟨(f_rem 13 6660 u13 (by decide) ha hn (dN8 (m := 2) rfl)), trivial⟩))))
  · obtain ⟨q, hq⟩ := all3 (a := a) hm hG p7 h0
    exact TE_then (sg cl31_ok hm hG p2 (by kernel_rfl) (mpr (go_c3 a m) (doneL ⟨(f_rem 13 6660 u13 (by decide) ha hn (dN8 (m := 3) rfl)), trivial⟩))) (TE_then (sg cl31_ok hm hG p3 (by kernel_rfl) (mpr (go_d3 a m) (doneL trivial))) (TE_then (T_then (sg cl31_ok hm hG p5 (by kernel_rfl) (mpr (go_e3 a m) (doneL trivial))) (T_bl hq)) (sgE cl31_ok hm hG q4 (mpr (go_t3 a m ((0 : Nat) : Int) ((10 : Nat) : Int)) ⟨(f_rem 13 6660 u13 (by decide) ha hn (dN8 (m := 3) rfl)), trivial⟩))))
  · obtain ⟨q, hq⟩ := all4 (a := a) hm hG p7 h0
    exact TE_then (sg cl31_ok hm hG p2 (by kernel_rfl) (mpr (go_c4 a m) (doneL ⟨(f_rem 13 6660 u13 (by decide) ha hn (dN8 (m := 4) rfl)), trivial⟩))) (TE_then (sg cl31_ok hm hG p3 (by kernel_rfl) (mpr (go_d4 a m) (doneL trivial))) (TE_then (T_then (sg cl31_ok hm hG p5 (by kernel_rfl) (mpr (go_e4 a m) (doneL trivial))) (T_bl hq)) (sgE cl31_ok hm hG q4 (mpr (go_t4 a m ((0 : Nat) : Int) ((10 : Nat) : Int)) ⟨(f_rem 13 6660 u13 (by decide) ha hn (dN8 (m := 4) rfl)), trivial⟩))))
  · obtain ⟨q, hq⟩ := all5 (a := a) hm hG p7 h0
    exact TE_then (sg cl31_ok hm hG p2 (by kernel_rfl) (mpr (go_c5 a m) (doneL ⟨(f_rem 13 6660 u13 (by decide) ha hn (dN8 (m := 5) rfl)), trivial⟩))) (TE_then (sg cl31_ok hm hG p3 (by kernel_rfl) (mpr (go_d5 a m) (doneL trivial))) (TE_then (T_then (sg cl31_ok hm hG p5 (by kernel_rfl) (mpr (go_e5 a m) (doneL trivial))) (T_bl hq)) (sgE cl31_ok hm hG q4 (mpr (go_t5 a m ((0 : Nat) : Int) ((10 : Nat) : Int)) ⟨(f_rem 13 6660 u13 (by decide) ha hn (dN8 (m := 5) rfl)), trivial⟩))))
  · obtain ⟨q, hq⟩ := all6 (a := a) hm hG p7 h0
    exact TE_then (sg cl31_ok hm hG p2 (by kernel_rfl) (mpr (go_c6 a m) (doneL ⟨(f_rem 13 6660 u13 (by decide) ha hn (dN8 (m := 6) rfl)), trivial⟩))) (TE_then (sg cl31_ok hm hG p3 (by kernel_rfl) (mpr (go_d6 a m) (doneL trivial))) (TE_then (T_then (sg cl31_ok hm hG p5 (by kernel_rfl) (mpr (go_e6 a m) (doneL trivial))) (T_bl hq)) (sgE cl31_ok hm hG q4 (mpr (go_t6 a m ((0 : Nat) : Int) ((10 : Nat) : Int)) ⟨(f_rem 13 6660 u13 (by decide) ha hn (dN8 (m := 6) rfl)), trivial⟩))))
  · obtain ⟨q, hq⟩ := all7 (a := a) hm hG p7 h0
    exact TE_then (sg cl31_ok hm hG p2 (by kernel_rfl) (mpr (go_c7 a m) (doneL ⟨(f_rem 13 6660 u13 (by decide) ha hn (dN8 (m := 7) rfl)), trivial⟩))) (TE_then (sg cl31_ok hm hG p3 (by kernel_rfl) (mpr (go_d7 a m) (doneL trivial))) (TE_then (T_then (sg cl31_ok hm hG p5 (by kernel_rfl) (mpr (go_e7 a m) (doneL trivial))) (T_bl hq)) (sgE cl31_ok hm hG q4 (mpr (go_t7 a m ((0 : Nat) : Int) ((10 : Nat) : Int)) ⟨(f_rem 13 6660 u13 (by decide) ha hn (dN8 (m := 7) rfl)), trivial⟩))))
  · obtain ⟨q, hq⟩ := all8 (a := a) hm hG p7 h0
    exact TE_then (sg cl31_ok hm hG p2 (by kernel_rfl) (mpr (go_c8 a m) (doneL ⟨(f_rem 13 6660 u13 (by decide) ha hn (dN8 (m := 8) rfl)), trivial⟩))) (TE_then (sg cl31_ok hm hG p3 (by kernel_rfl) (mpr (go_d8 a m) (doneL trivial))) (TE_then (T_then (sg cl31_ok hm hG p5 (by kernel_rfl) (mpr (go_e8 a m) (doneL trivial))) (T_bl hq)) (sgE cl31_ok hm hG q4 (mpr (go_t8 a m ((0 : Nat) : Int) ((10 : Nat) : Int)) ⟨(f_rem 13 6660 u13 (by decide) ha hn (dN8 (m := 8) rfl)), trivial⟩))))
  · obtain ⟨q, hq⟩ := all9 (a := a) hm hG p7 h0
    exact TE_then (sg cl31_ok hm hG p2 (by kernel_rfl) (mpr (go_c9 a m) (doneL ⟨(f_rem 13 6660 u13 (by decide) ha hn (dN8 (m := 9) rfl)), trivial⟩))) (TE_then (sg cl31_ok hm hG p3 (by kernel_rfl) (mpr (go_d9 a m) (doneL trivial))) (TE_then (T_then (sg cl31_ok hm hG p5 (by kernel_rfl) (mpr (go_e9 a m) (doneL trivial))) (T_bl hq)) (sgE cl31_ok hm hG q4 (mpr (go_t9 a m ((0 : Nat) : Int) ((10 : Nat) : Int)) ⟨(f_rem 13 6660 u13 (by decide) ha hn (dN8 (m := 9) rfl)), trivial⟩))))
  · obtain ⟨q, hq⟩ := all10 (a := a) hm hG p7 h0
    exact TE_then (sg cl31_ok hm hG p2 (by kernel_rfl) (mpr (go_c10 a m) (doneL ⟨(f_rem 13 6660 u13 (by decide) ha hn (dN8 (m := 10) rfl)), trivial⟩))) (TE_then (sg cl31_ok hm hG p3 (by kernel_rfl) (mpr (go_d10 a m) (doneL trivial))) (TE_then (T_then (sg cl31_ok hm hG p5 (by kernel_rfl) (mpr (go_e10 a m) (doneL trivial))) (T_bl hq)) (sgE cl31_ok hm hG q4 (mpr (go_t10 a m ((0 : Nat) : Int) ((10 : Nat) : Int)) ⟨(f_rem 13 6660 u13 (by decide) ha hn (dN8 (m := 10) rfl)), trivial⟩))))
  · obtain ⟨q, hq⟩ := all11 (a := a) hm hG p7 h0
    exact TE_then (sg cl31_ok hm hG p2 (by kernel_rfl) (mpr (go_c11 a m) (doneL ⟨(f_rem 13 6660 u13 (by decide) ha hn (dN8 (m := 11) rfl)), trivial⟩))) (TE_then (sg cl31_ok hm hG p3 (by kernel_rfl) (mpr (go_d11 a m) (doneL trivial))) (TE_then (T_then (sg cl31_ok hm hG p5 (by kernel_rfl) (mpr (go_e11 a m) (doneL trivial))) (T_bl hq)) (sgE cl31_ok hm hG q4 (mpr (go_t11 a m ((0 : Nat) : Int) ((10 : Nat) : Int)) ⟨(f_rem 13 6660 u13 (by decide) ha hn (dN8 (m := 11) rfl)), trivial⟩))))
  · obtain ⟨q, hq⟩ := all12 (a := a) hm hG p7 h0
    exact TE_then (sg cl31_ok hm hG p2 (by kernel_rfl) (mpr (go_c12 a m) (doneL ⟨(f_rem 13 6660 u13 (by decide) ha hn (dN8 (m := 12) rfl)), trivial⟩))) (TE_then (sg cl31_ok hm hG p3 (by kernel_rfl) (mpr (go_d12 a m) (doneL trivial))) (TE_then (T_then (sg cl31_ok hm hG p5 (by kernel_rfl) (mpr (go_e12 a m) (doneL trivial))) (T_bl hq)) (sgE cl31_ok hm hG q4 (mpr (go_t12 a m ((0 : Nat) : Int) ((10 : Nat) : Int)) ⟨(f_rem 13 6660 u13 (by decide) ha hn (dN8 (m := 12) rfl)), trivial⟩))))
end Go.M
