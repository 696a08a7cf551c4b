/-
  The engine, joined part G: an abstract interpreter over the kit's calls, and its soundness.
  No condition beyond those that each theorem states.
-/
import Derived.Test.YtfcecgfjjamlcaaGreatEngF
set_option linter.all false
namespace Go.Eng
open Go
structure N16 (α : Type) where
  a0 : α
  a1 : α
  a2 : α
  a3 : α
  a4 : α
  a5 : α
  a6 : α
  a7 : α
  a8 : α
  a9 : α
  a10 : α
  a11 : α
  a12 : α
  a13 : α
  a14 : α
  a15 : α
def N16.get {α : Type} (n : N16 α) (k : Nat) : α := match k with
  | 0 => n.a0
  | 1 => n.a1
  | 2 => n.a2
  | 3 => n.a3
  | 4 => n.a4
  | 5 => n.a5
  | 6 => n.a6
  | 7 => n.a7
  | 8 => n.a8
  | 9 => n.a9
  | 10 => n.a10
  | 11 => n.a11
  | 12 => n.a12
  | 13 => n.a13
  | 14 => n.a14
  | _ => n.a15
def N16.p0 {α : Type} (n : N16 α) : α := n.a0
def N16.p1 {α : Type} (n : N16 α) : α := n.a1
def N16.p2 {α : Type} (n : N16 α) : α := n.a2
def N16.p3 {α : Type} (n : N16 α) : α := n.a3
def N16.p4 {α : Type} (n : N16 α) : α := n.a4
def N16.p5 {α : Type} (n : N16 α) : α := n.a5
def N16.p6 {α : Type} (n : N16 α) : α := n.a6
def N16.p7 {α : Type} (n : N16 α) : α := n.a7
def N16.p8 {α : Type} (n : N16 α) : α := n.a8
def N16.p9 {α : Type} (n : N16 α) : α := n.a9
def N16.p10 {α : Type} (n : N16 α) : α := n.a10
def N16.p11 {α : Type} (n : N16 α) : α := n.a11
def N16.p12 {α : Type} (n : N16 α) : α := n.a12
def N16.p13 {α : Type} (n : N16 α) : α := n.a13
def N16.p14 {α : Type} (n : N16 α) : α := n.a14
def N16.p15 {α : Type} (n : N16 α) : α := n.a15
def N16.u0 {α : Type} (n : N16 α) (x : α) : N16 α := N16.casesOn n fun c0 c1 c2 c3 c4 c5 c6 c7 c8 c9 c10 c11 c12 c13 c14 c15 => N16.mk x c1 c2 c3 c4 c5 c6 c7 c8 c9 c10 c11 c12 c13 c14 c15
def N16.u1 {α : Type} (n : N16 α) (x : α) : N16 α := N16.casesOn n fun c0 c1 c2 c3 c4 c5 c6 c7 c8 c9 c10 c11 c12 c13 c14 c15 => N16.mk c0 x c2 c3 c4 c5 c6 c7 c8 c9 c10 c11 c12 c13 c14 c15
def N16.u2 {α : Type} (n : N16 α) (x : α) : N16 α := N16.casesOn n fun c0 c1 c2 c3 c4 c5 c6 c7 c8 c9 c10 c11 c12 c13 c14 c15 => N16.mk c0 c1 x c3 c4 c5 c6 c7 c8 c9 c10 c11 c12 c13 c14 c15
def N16.u3 {α : Type} (n : N16 α) (x : α) : N16 α := N16.casesOn n fun c0 c1 c2 c3 c4 c5 c6 c7 c8 c9 c10 c11 c12 c13 c14 c15 => N16.mk c0 c1 c2 x c4 c5 c6 c7 c8 c9 c10 c11 c12 c13 c14 c15
def N16.u4 {α : Type} (n : N16 α) (x : α) : N16 α := N16.casesOn n fun c0 c1 c2 c3 c4 c5 c6 c7 c8 c9 c10 c11 c12 c13 c14 c15 => N16.mk c0 c1 c2 c3 x c5 c6 c7 c8 c9 c10 c11 c12 c13 c14 c15
def N16.u5 {α : Type} (n : N16 α) (x : α) : N16 α := N16.casesOn n fun c0 c1 c2 c3 c4 c5 c6 c7 c8 c9 c10 c11 c12 c13 c14 c15 => N16.mk c0 c1 c2 c3 c4 x c6 c7 c8 c9 c10 c11 c12 c13 c14 c15
def N16.u6 {α : Type} (n : N16 α) (x : α) : N16 α := N16.casesOn n fun c0 c1 c2 c3 c4 c5 c6 c7 c8 c9 c10 c11 c12 c13 c14 c15 => N16.mk c0 c1 c2 c3 c4 c5 x c7 c8 c9 c10 c11 c12 c13 c14 c15
def N16.u7 {α : Type} (n : N16 α) (x : α) : N16 α := N16.casesOn n fun c0 c1 c2 c3 c4 c5 c6 c7 c8 c9 c10 c11 c12 c13 c14 c15 => N16.mk c0 c1 c2 c3 c4 c5 c6 x c8 c9 c10 c11 c12 c13 c14 c15
def N16.u8 {α : Type} (n : N16 α) (x : α) : N16 α := N16.casesOn n fun c0 c1 c2 c3 c4 c5 c6 c7 c8 c9 c10 c11 c12 c13 c14 c15 => N16.mk c0 c1 c2 c3 c4 c5 c6 c7 x c9 c10 c11 c12 c13 c14 c15
def N16.u9 {α : Type} (n : N16 α) (x : α) : N16 α := N16.casesOn n fun c0 c1 c2 c3 c4 c5 c6 c7 c8 c9 c10 c11 c12 c13 c14 c15 => N16.mk c0 c1 c2 c3 c4 c5 c6 c7 c8 x c10 c11 c12 c13 c14 c15
def N16.u10 {α : Type} (n : N16 α) (x : α) : N16 α := N16.casesOn n fun c0 c1 c2 c3 c4 c5 c6 c7 c8 c9 c10 c11 c12 c13 c14 c15 => N16.mk c0 c1 c2 c3 c4 c5 c6 c7 c8 c9 x c11 c12 c13 c14 c15
def N16.u11 {α : Type} (n : N16 α) (x : α) : N16 α := N16.casesOn n fun c0 c1 c2 c3 c4 c5 c6 c7 c8 c9 c10 c11 c12 c13 c14 c15 => N16.mk c0 c1 c2 c3 c4 c5 c6 c7 c8 c9 c10 x c12 c13 c14 c15
def N16.u12 {α : Type} (n : N16 α) (x : α) : N16 α := N16.casesOn n fun c0 c1 c2 c3 c4 c5 c6 c7 c8 c9 c10 c11 c12 c13 c14 c15 => N16.mk c0 c1 c2 c3 c4 c5 c6 c7 c8 c9 c10 c11 x c13 c14 c15
def N16.u13 {α : Type} (n : N16 α) (x : α) : N16 α := N16.casesOn n fun c0 c1 c2 c3 c4 c5 c6 c7 c8 c9 c10 c11 c12 c13 c14 c15 => N16.mk c0 c1 c2 c3 c4 c5 c6 c7 c8 c9 c10 c11 c12 x c14 c15
def N16.u14 {α : Type} (n : N16 α) (x : α) : N16 α := N16.casesOn n fun c0 c1 c2 c3 c4 c5 c6 c7 c8 c9 c10 c11 c12 c13 c14 c15 => N16.mk c0 c1 c2 c3 c4 c5 c6 c7 c8 c9 c10 c11 c12 c13 x c15
def N16.u15 {α : Type} (n : N16 α) (x : α) : N16 α := N16.casesOn n fun c0 c1 c2 c3 c4 c5 c6 c7 c8 c9 c10 c11 c12 c13 c14 c15 => N16.mk c0 c1 c2 c3 c4 c5 c6 c7 c8 c9 c10 c11 c12 c13 c14 x
def N16.ps {α : Type} : List (N16 α → α) := [N16.p0, N16.p1, N16.p2, N16.p3, N16.p4, N16.p5, N16.p6, N16.p7, N16.p8, N16.p9, N16.p10, N16.p11, N16.p12, N16.p13, N16.p14, N16.p15]
def N16.us {α : Type} : List (N16 α → α → N16 α) := [N16.u0, N16.u1, N16.u2, N16.u3, N16.u4, N16.u5, N16.u6, N16.u7, N16.u8, N16.u9, N16.u10, N16.u11, N16.u12, N16.u13, N16.u14, N16.u15]
theorem lt16 {k : Nat} (h : k < 16) : k = 0 ∨ k = 1 ∨ k = 2 ∨ k = 3 ∨ k = 4 ∨ k = 5 ∨ k = 6 ∨ k = 7 ∨ k = 8 ∨ k = 9 ∨ k = 10 ∨ k = 11 ∨ k = 12 ∨ k = 13 ∨ k = 14 ∨ k = 15 := by omega
theorem N16.ps_ok {α : Type} {k : Nat} {p : N16 α → α} (h : N16.ps[k]? = some p) (n : N16 α) : p n = n.get k := by
  have hk : k < 16 := (List.getElem?_eq_some_iff.1 h).1
  rcases lt16 hk with rfl | rfl | rfl | rfl | rfl | rfl | rfl | rfl | rfl | rfl | rfl | rfl | rfl | rfl | rfl | rfl <;> (cases h; rfl)
theorem N16.us_self {α : Type} {k : Nat} {u : N16 α → α → N16 α} (h : N16.us[k]? = some u) (n : N16 α) (x : α) : (u n x).get k = x := by
  have hk : k < 16 := (List.getElem?_eq_some_iff.1 h).1
  rcases lt16 hk with rfl | rfl | rfl | rfl | rfl | rfl | rfl | rfl | rfl | rfl | rfl | rfl | rfl | rfl | rfl | rfl <;> (cases h; rfl)
theorem N16.us_ne {α : Type} {k j : Nat} {u : N16 α → α → N16 α} (h : N16.us[k]? = some u) (hj : j < 16) (hn : j ≠ k) (n : N16 α) (x : α) : (u n x).get j = n.get j := by
  have hk : k < 16 := (List.getElem?_eq_some_iff.1 h).1
  rcases lt16 hk with rfl | rfl | rfl | rfl | rfl | rfl | rfl | rfl | rfl | rfl | rfl | rfl | rfl | rfl | rfl | rfl <;> cases h <;> (rcases lt16 hj with rfl | rfl | rfl | rfl | rfl | rfl | rfl | rfl | rfl | rfl | rfl | rfl | rfl | rfl | rfl | rfl <;> first | exact absurd rfl hn | rfl)
abbrev Fr := N16 (N16 (Option AV))
def n0 : N16 (Option AV) := ⟨none, none, none, none, none, none, none, none, none, none, none, none, none, none, none, none⟩
def fr0 : Fr := ⟨n0, n0, n0, n0, n0, n0, n0, n0, n0, n0, n0, n0, n0, n0, n0, n0⟩
def getT (T : Fr) (k : Nat) : Option AV := if k < 256 then (T.get (k / 16)).get (k % 16) else none
abbrev Rd := Fr → Option AV
abbrev Wr := Fr → AV → Fr
def rd2 (p : Fr → N16 (Option AV)) (q : N16 (Option AV) → Option AV) : Rd := fun T => q (p T)
def rdC (c : Value) : Rd := fun _ => some (.v c)
def rdF (f : FuncId) : Rd := fun _ => some (.fn f [])
def rdN : Rd := fun _ => none
def wr2 (p : Fr → N16 (Option AV)) (u : Fr → N16 (Option AV) → Fr) (w : N16 (Option AV) → Option AV → N16 (Option AV)) : Wr := fun T x => u T (w (p T) (some x))
def wrN : Wr := fun T _ => T
def rdP : Option (Fr → N16 (Option AV)) → Option (N16 (Option AV) → Option AV) → Rd
  | some p, some q => rd2 p q
  | _, _ => rdN
def wrP : Option (Fr → N16 (Option AV)) → Option (Fr → N16 (Option AV) → Fr) → Option (N16 (Option AV) → Option AV → N16 (Option AV)) → Wr
  | some p, some u, some w => wr2 p u w
  | _, _, _ => wrN
def rdT (k : Nat) : Rd := rdP N16.ps[k / 16]? N16.ps[k % 16]?
def wrT (k : Nat) : Wr := wrP N16.ps[k / 16]? N16.us[k / 16]? N16.us[k % 16]?
def rdOp : Operand → Rd
  | .tmp k => rdT k
  | .const c => rdC c
  | .func f => bif Nat.blt f 1000000 then rdF f else rdN
  | .global _ => rdN
def wrOp : Option Nat → Wr
  | some d => wrT d
  | none => wrN
theorem ps_len {α : Type} : (N16.ps (α := α)).length = 16 := rfl
theorem us_len {α : Type} : (N16.us (α := α)).length = 16 := rfl
theorem rdT_get {T : Fr} {k : Nat} {x : AV} (h : rdT k T = some x) : getT T k = some x := by
  unfold rdT at h
  generalize hp : (N16.ps (α := N16 (Option AV)))[k / 16]? = p0 at h
  generalize hq : (N16.ps (α := Option AV))[k % 16]? = q0 at h
  rcases p0 with _ | p <;> rcases q0 with _ | q
  · cases h
  · cases h
  · cases h
  · have h1 : k / 16 < 16 := (List.getElem?_eq_some_iff.1 hp).1
    unfold getT
    rw [if_pos (by omega), ← N16.ps_ok hp, ← N16.ps_ok hq]
    exact h
theorem wrT_self {T : Fr} {k : Nat} {x y : AV} (h : getT (wrT k T x) k = some y) : y = x ∨ getT T k = some y := by
  unfold wrT at h
  generalize hp : (N16.ps (α := N16 (Option AV)))[k / 16]? = p0 at h
  generalize hu : (N16.us (α := N16 (Option AV)))[k / 16]? = u0 at h
  generalize hw : (N16.us (α := Option AV))[k % 16]? = w0 at h
  rcases p0 with _ | p <;> rcases u0 with _ | u <;> rcases w0 with _ | w <;> try exact Or.inr h
  · have h1 : k / 16 < 16 := (List.getElem?_eq_some_iff.1 hp).1
    simp only [wrP] at h
    unfold getT at h
    rw [if_pos (by omega)] at h
    simp only [wr2] at h
    rw [N16.us_self hu, N16.us_self hw] at h
    exact Or.inl (Option.some.inj h).symm
theorem wrT_lt {T : Fr} {k : Nat} {x : AV} (h : k < 256) : getT (wrT k T x) k = some x := by
  have h1 : k / 16 < 16 := by omega
  have h2 : k % 16 < 16 := by omega
  obtain ⟨p, hp⟩ : ∃ p, (N16.ps (α := N16 (Option AV)))[k / 16]? = some p := ⟨_, List.getElem?_eq_getElem (by simpa [ps_len] using h1)⟩
  obtain ⟨u, hu⟩ : ∃ u, (N16.us (α := N16 (Option AV)))[k / 16]? = some u := ⟨_, List.getElem?_eq_getElem (by simpa [us_len] using h1)⟩
  obtain ⟨w, hw⟩ : ∃ w, (N16.us (α := Option AV))[k % 16]? = some w := ⟨_, List.getElem?_eq_getElem (by simpa [us_len] using h2)⟩
  unfold wrT getT
  rw [hp, hu, hw, if_pos h]
  simp only [wrP, wr2]
  rw [N16.us_self hu, N16.us_self hw]
theorem wrT_ne {T : Fr} {k j : Nat} {x : AV} (hn : j ≠ k) : getT (wrT k T x) j = getT T j := by
  unfold wrT
  generalize hp : (N16.ps (α := N16 (Option AV)))[k / 16]? = p0
  generalize hu : (N16.us (α := N16 (Option AV)))[k / 16]? = u0
  generalize hw : (N16.us (α := Option AV))[k % 16]? = w0
  rcases p0 with _ | p <;> rcases u0 with _ | u <;> rcases w0 with _ | w <;> try rfl
  · simp only [wrP]
    have h1 : k / 16 < 16 := (List.getElem?_eq_some_iff.1 hp).1
    unfold getT
    by_cases hj : j < 256
    · rw [if_pos hj, if_pos hj]
      simp only [wr2]
      by_cases hd : j / 16 = k / 16
      · rw [hd, N16.us_self hu, N16.us_ne hw (by omega) (by omega), N16.ps_ok hp]
      · rw [N16.us_ne hu (by omega) hd]
    · rw [if_neg hj, if_neg hj]
def View (t : List (Nat × AV)) (T : Fr) : Prop := ∀ k x, getT T k = some x → get t k = some x
theorem View.wr {t : List (Nat × AV)} {T : Fr} (hv : View t T) (d : Option Nat) (x : AV) (hd : ∀ k, d = some k → k < 256) : View (putA t d x) (wrOp d T x) := by
  cases d with
  | none => exact hv
  | some d =>
    intro k y hy
    simp only [putA, get]
    by_cases hk : d = k
    · subst hk
      have : getT (wrT d T x) d = some x := wrT_lt (hd d rfl)
      have hy : getT (wrT d T x) d = some y := hy
      rw [if_pos rfl, ← hy, this]
    · rw [if_neg hk]
      have hy : getT (wrT d T x) k = some y := hy
      rw [wrT_ne (fun e => hk e.symm)] at hy
      exact hv k y hy
def RdOk (x : Operand) (rd : Rd) : Prop := ∀ T y, rd T = some y → ∀ t, View t T → ev t x = some y
theorem rdOp_ok (x : Operand) : RdOk x (rdOp x) := by
  intro T y h t hv
  cases x with
  | tmp k => exact hv k y (rdT_get h)
  | const c => exact h
  | func f =>
    simp only [rdOp] at h
    cases hb : Nat.blt f 1000000 with
    | true =>
      rw [hb] at h
      have : f < 1000000 := Nat.lt_of_lt_of_le (Nat.lt_succ_self _) (Nat.le_of_ble_eq_true hb)
      simp only [ev]
      rw [if_pos this]
      exact h
    | false => rw [hb] at h; cases h
  | global g => cases h
def frOf : List AV → Nat → Fr → Fr
  | [], _, T => T
  | x :: l, k, T => frOf l (k + 1) (wrT k T x)
theorem getT_fr0 (k : Nat) : getT fr0 k = none := by
  unfold getT
  split
  · have h1 : k / 16 < 16 := by omega
    have h2 : k % 16 < 16 := by omega
    have e : fr0.get (k / 16) = n0 := by
      generalize k / 16 = a at h1
      rcases lt16 h1 with rfl | rfl | rfl | rfl | rfl | rfl | rfl | rfl | rfl | rfl | rfl | rfl | rfl | rfl | rfl | rfl <;> rfl
    rw [e]
    generalize k % 16 = a at h2
    rcases lt16 h2 with rfl | rfl | rfl | rfl | rfl | rfl | rfl | rfl | rfl | rfl | rfl | rfl | rfl | rfl | rfl | rfl <;> rfl
  · rfl
end Go.Eng

namespace Go.Eng
open Go
abbrev Hp := List (Nat × Ob)
structure Use where
  f : FuncId
  xs : List AV
  bs : List (List AV)
  r : AV
  bs' : List (List AV)
structure XR where
  e : Exit
  n : Nat
  T : Fr
  H : Hp
  O : List Use
abbrev RR := Option XR
abbrev Kc := AV → Hp → List Nat → RR
abbrev Core := Nat → Fr → Hp → Kc → RR
def CoreOk (op : SOp) (c : Core) : Prop := ∀ (run : RunT) nm T H k r, c nm T H k = some r → ∃ y u rd, k y u rd = some r ∧ ∀ t o, View t T → o.op = op → opX run nm o t H = some ⟨y, u, rd⟩
theorem opX_of {run : RunT} {nm : Nat} {o : SOper} {t : List (Nat × AV)} {h : Hp} {op : SOp} {p : Prop} {y : AV} {u : Hp} {rd : List Nat} (ho : o.op = op) (hp : plainOp op = true) (he : eff2 nm t h op = some ⟨p, y, u⟩)
    (hb : preB t h op = true) (hr : rdOf t op = rd) : opX run nm o t h = some ⟨y, u, rd⟩ := by
  subst ho
  rw [opX_plain hp, he]
  simp only [hb, cond_true, hr]
def oB (x : Option AV) (k : AV → RR) : RR := Option.casesOn x none k
theorem oB_some {x : Option AV} {k : AV → RR} {r} (h : oB x k = some r) : ∃ y, x = some y ∧ k y = some r := by
  cases x with
  | none => cases h
  | some y => exact ⟨y, rfl, h⟩
def vB (x : AV) (k : Value → RR) : RR := match x with
  | .v a => k a
  | _ => none
theorem vB_some {x : AV} {k : Value → RR} {r} (h : vB x k = some r) : ∃ y, x = .v y ∧ k y = some r := by
  cases x <;> first | exact ⟨_, rfl, h⟩ | cases h
def bB (x : Value) (k : Bool → RR) : RR := match x with
  | .bool a => k a
  | _ => none
theorem bB_some {x : Value} {k : Bool → RR} {r} (h : bB x k = some r) : ∃ y, x = .bool y ∧ k y = some r := by
  cases x <;> first | exact ⟨_, rfl, h⟩ | cases h
def getF (H : Hp) (b : Nat) (k : Ob → RR) : RR := match H with
  | [] => none
  | p :: l => bif Nat.beq p.1 b then k p.2 else getF l b k
theorem getF_some : ∀ {H : Hp} {b : Nat} {k : Ob → RR} {r}, getF H b k = some r → ∃ o, get H b = some o ∧ k o = some r
  | [], b, k, r, h => by cases h
  | p :: l, b, k, r, h => by
    simp only [getF] at h
    obtain ⟨a, o⟩ := p
    simp only [get]
    cases hb : Nat.beq a b with
    | true =>
      rw [hb] at h
      rw [if_pos (Nat.eq_of_beq_eq_true hb)]
      exact ⟨o, rfl, h⟩
    | false =>
      rw [hb] at h
      rw [if_neg (Nat.ne_of_beq_eq_false hb)]
      exact getF_some h
def nthK (cs : List AV) (j : Nat) (k : AV → RR) : RR := match cs with
  | [] => none
  | c :: l => Nat.casesOn j (k c) fun j => nthK l j k
theorem nthK_some : ∀ {cs : List AV} {j : Nat} {k : AV → RR} {r}, nthK cs j k = some r → ∃ c, cs[j]? = some c ∧ k c = some r
  | [], j, k, r, h => by cases h
  | c :: l, 0, k, r, h => ⟨c, rfl, h⟩
  | c :: l, j + 1, k, r, h => by
    obtain ⟨c', h1, h2⟩ := nthK_some (cs := l) (j := j) h
    exact ⟨c', by simpa using h1, h2⟩
def cMov (x : Rd) : Core := fun _ T _ k => oB (x T) fun y => k y [] []
theorem cMov_ok (x : Operand) : CoreOk (.mov x) (cMov (rdOp x)) := by
  intro run nm T H k r h
  obtain ⟨y, hy, hk⟩ := oB_some h
  refine ⟨y, [], [], hk, fun t o hv ho => opX_of ho rfl (p := True) ?_ rfl rfl⟩
  simp only [eff2, eff, rdOp_ok x T y hy t hv]; rfl
def cPick (c a b : Rd) : Core := fun _ T _ k => oB (c T) fun v => vB v fun v => bB v fun v => Bool.casesOn v (oB (b T) fun y => k y [] []) (oB (a T) fun y => k y [] [])
theorem cPick_ok (c a b : Operand) : CoreOk (.pick c a b) (cPick (rdOp c) (rdOp a) (rdOp b)) := by
  intro run nm T H k r h
  obtain ⟨v, hv1, h⟩ := oB_some h
  obtain ⟨v, rfl, h⟩ := vB_some h
  obtain ⟨v, rfl, h⟩ := bB_some h
  cases v with
  | true =>
    obtain ⟨y, hy, hk⟩ := oB_some h
    refine ⟨y, [], [], hk, fun t o hv ho => opX_of ho rfl (p := True) ?_ rfl rfl⟩
    simp only [eff2, eff, rdOp_ok c T _ hv1 t hv, rdOp_ok a T y hy t hv]; rfl
  | false =>
    obtain ⟨y, hy, hk⟩ := oB_some h
    refine ⟨y, [], [], hk, fun t o hv ho => opX_of ho rfl (p := True) ?_ rfl rfl⟩
    simp only [eff2, eff, rdOp_ok c T _ hv1 t hv, rdOp_ok b T y hy t hv]; rfl
def cAlloc (cs : List AV) : Core := fun nm _ _ k => k (.ptr nm 0) [(nm, .box cs)] []
theorem cAlloc_ok (zs : List Value) : CoreOk (.alloc zs) (cAlloc (zs.map .v)) := by
  intro run nm T H k r h
  exact ⟨_, _, _, h, fun t o hv ho => opX_of ho rfl (p := True) (by simp only [eff2, eff]) rfl rfl⟩
def cellsK (y : AV) (k : List AV → RR) : RR := match y with
  | .agg cs => bif oneL cs then k cs else none
  | y => bif y.one then k [y] else none
theorem cellsK_some {y : AV} {k : List AV → RR} {r} (h : cellsK y k = some r) : ∃ cs, cellsA y = some cs ∧ k cs = some r := by
  unfold cellsK at h
  unfold cellsA
  cases y with
  | agg cs =>
    cases ho : oneL cs with
    | true => simp only [ho, cond_true] at h; exact ⟨cs, by simp [ho], h⟩
    | false => simp only [ho, cond_false] at h; cases h
  | _ =>
    rename_i a
    simp only at h ⊢
    split
    · rename_i h1; rw [h1] at h; exact ⟨_, rfl, h⟩
    · rename_i h1; simp only [h1, Bool.not_eq_true] at h
      first | (cases h; done) | (have h1 := eq_false_of_ne_true h1; rw [h1] at h; cases h)
def cBox (x : Rd) : Core := fun nm T _ k => oB (x T) fun y => cellsK y fun ys => k (.ptr nm 0) [(nm, .box ys)] []
theorem cBox_ok (x : Operand) : CoreOk (.box x) (cBox (rdOp x)) := by
  intro run nm T H k r h
  obtain ⟨y, hy, h⟩ := oB_some h
  obtain ⟨ys, hc, hk⟩ := cellsK_some h
  refine ⟨_, _, _, hk, fun t o hv ho => opX_of ho rfl (p := True) ?_ rfl rfl⟩
  simp only [eff2, eff, rdOp_ok x T y hy t hv, hc]
def subK (cs : List AV) (j sz : Nat) (k : List AV → RR) : RR :=
  bif Nat.beq j 0 && Nat.beq cs.length sz then k cs else bif Nat.ble (j + sz) cs.length then k ((cs.drop j).take sz) else none
theorem subK_some {cs : List AV} {j sz : Nat} {k : List AV → RR} {r} (h : subK cs j sz k = some r) : j + sz ≤ cs.length ∧ k ((cs.drop j).take sz) = some r := by
  unfold subK at h
  cases h1 : Nat.beq j 0 && Nat.beq cs.length sz with
  | true =>
    rw [h1] at h
    simp only [Bool.and_eq_true] at h1
    have e1 := Nat.eq_of_beq_eq_true h1.1
    have e2 := Nat.eq_of_beq_eq_true h1.2
    subst e1 e2
    exact ⟨by omega, by simpa using h⟩
  | false =>
    rw [h1] at h
    simp only [cond_false] at h
    cases h2 : Nat.ble (j + sz) cs.length with
    | true => rw [h2] at h; exact ⟨Nat.le_of_ble_eq_true h2, h⟩
    | false => rw [h2] at h; cases h
def obBox (o : Ob) (k : List AV → RR) : RR := match o with
  | .box cs => k cs
  | _ => none
theorem obBox_some {o : Ob} {k : List AV → RR} {r} (h : obBox o k = some r) : ∃ cs, o = .box cs ∧ k cs = some r := by
  cases o <;> first | exact ⟨_, rfl, h⟩ | cases h
def obRow (o : Ob) (k : TypeId → Nat → List (List AV) → RR) : RR := match o with
  | .row e sz xs => k e sz xs
  | _ => none
theorem obRow_some {o : Ob} {k : TypeId → Nat → List (List AV) → RR} {r} (h : obRow o k = some r) : ∃ e sz xs, o = .row e sz xs ∧ k e sz xs = some r := by
  cases o <;> first | exact ⟨_, _, _, rfl, h⟩ | cases h
def ifB (b : Bool) (k : RR) : RR := Bool.casesOn b none k
theorem ifB_some {b : Bool} {k : RR} {r} (h : ifB b k = some r) : b = true ∧ k = some r := by
  cases b with
  | true => exact ⟨rfl, h⟩
  | false => cases h
def ldB (k : Kc) (b : Nat) (j : Nat) (cs : List AV) : RR := nthK cs j fun c => k c [] [b]
def ldR (k : Kc) (b sz' kk j : Nat) (e : TypeId) (sz'' : Nat) (xs : List (List AV)) : RR :=
  ifB (Nat.beq sz' sz'' && (Nat.blt kk xs.length && Nat.blt j sz'')) (k (((nth xs kk)[j]?).getD (.v undef)) [] [b])
def cLoad1 (x : Rd) : Core := fun _ T H k => oB (x T) fun p => match p with
  | .ptr b j => getF H b fun o => obBox o (ldB k b j)
  | .pel cs j => nthK cs j fun c => k c [] []
  | .rp b sz' kk j => getF H b fun o => obRow o (ldR k b sz' kk j)
  | _ => none
theorem blt_lt {a b : Nat} (h : Nat.blt a b = true) : a < b := Nat.lt_of_lt_of_le (Nat.lt_succ_self _) (Nat.le_of_ble_eq_true h)
theorem cLoad1_ok (sz : Nat) (x : Operand) : CoreOk (.load false sz x) (cLoad1 (rdOp x)) := by
  intro run nm T H k r h
  obtain ⟨p, hp, h⟩ := oB_some h
  cases p with
  | ptr b j =>
    obtain ⟨o, hg, h⟩ := getF_some h
    obtain ⟨cs, rfl, h⟩ := obBox_some h
    obtain ⟨c, hc, h⟩ := nthK_some h
    refine ⟨_, _, _, h, fun t o hv ho => opX_of ho rfl (p := True) ?_ ?_ ?_⟩
    · simp only [eff2, eff, rdOp_ok x T _ hp t hv, hg, hc]; rfl
    · simp only [preB, rdOp_ok x T _ hp t hv]
    · simp only [rdOf, rdOp_ok x T _ hp t hv]; rfl
  | pel cs j =>
    obtain ⟨c, hc, h⟩ := nthK_some h
    refine ⟨_, _, _, h, fun t o hv ho => opX_of ho rfl (p := True) ?_ ?_ ?_⟩
    · simp only [eff2, eff, rdOp_ok x T _ hp t hv, hc]; rfl
    · simp only [preB, rdOp_ok x T _ hp t hv]
    · simp only [rdOf, rdOp_ok x T _ hp t hv]; rfl
  | rp b sz' kk j =>
    obtain ⟨o, hg, h⟩ := getF_some h
    obtain ⟨e, sz'', xs, rfl, h⟩ := obRow_some h
    obtain ⟨h1, h⟩ := ifB_some h
    simp only [Bool.and_eq_true] at h1
    obtain ⟨h1, h2, h3⟩ := h1
    have h1 := Nat.eq_of_beq_eq_true h1
    have h2 := blt_lt h2
    have h3 := blt_lt h3
    refine ⟨_, _, _, h, fun t o hv ho => opX_of ho rfl (p := kk < xs.length ∧ j < sz'') ?_ ?_ ?_⟩
    · simp only [eff2, eff, rdOp_ok x T _ hp t hv, hg, if_pos h1, Bool.false_eq_true, if_false]
    · simp only [preB, rdOp_ok x T _ hp t hv, hg, Bool.false_eq_true, if_false]; exact decide_eq_true ⟨h2, h3⟩
    · simp only [rdOf, rdOp_ok x T _ hp t hv]; rfl
  | _ => cases h
def ldBA (k : Kc) (b j sz : Nat) (cs : List AV) : RR := subK cs j sz fun c => k (.agg c) [] [b]
def ldRA (k : Kc) (b sz' kk j sz : Nat) (e : TypeId) (sz'' : Nat) (xs : List (List AV)) : RR :=
  ifB (Nat.beq sz' sz'' && (Nat.blt kk xs.length && Nat.ble (j + sz) sz'')) (k (.agg (((nth xs kk).drop j).take sz)) [] [b])
def cLoadA (sz : Nat) (x : Rd) : Core := fun _ T H k => oB (x T) fun p => match p with
  | .ptr b j => getF H b fun o => obBox o (ldBA k b j sz)
  | .pel cs j => subK cs j sz fun c => k (.agg c) [] []
  | .rp b sz' kk j => getF H b fun o => obRow o (ldRA k b sz' kk j sz)
  | _ => none
theorem cLoadA_ok (sz : Nat) (x : Operand) : CoreOk (.load true sz x) (cLoadA sz (rdOp x)) := by
  intro run nm T H k r h
  obtain ⟨p, hp, h⟩ := oB_some h
  cases p with
  | ptr b j =>
    obtain ⟨o, hg, h⟩ := getF_some h
    obtain ⟨cs, rfl, h⟩ := obBox_some h
    obtain ⟨hc, h⟩ := subK_some (cs := cs) (j := j) (sz := sz) (k := fun c => k (.agg c) [] [b]) h
    refine ⟨_, _, _, h, fun t o hv ho => opX_of ho rfl (p := True) ?_ ?_ ?_⟩
    · simp only [eff2, eff, rdOp_ok x T _ hp t hv, hg, if_true, if_pos hc]; rfl
    · simp only [preB, rdOp_ok x T _ hp t hv]
    · simp only [rdOf, rdOp_ok x T _ hp t hv]; rfl
  | pel cs j =>
    obtain ⟨hc, h⟩ := subK_some h
    refine ⟨_, _, _, h, fun t o hv ho => opX_of ho rfl (p := True) ?_ ?_ ?_⟩
    · simp only [eff2, eff, rdOp_ok x T _ hp t hv, if_true, if_pos hc]; rfl
    · simp only [preB, rdOp_ok x T _ hp t hv]
    · simp only [rdOf, rdOp_ok x T _ hp t hv]; rfl
  | rp b sz' kk j =>
    obtain ⟨o, hg, h⟩ := getF_some h
    obtain ⟨e, sz'', xs, rfl, h⟩ := obRow_some h
    obtain ⟨h1, h⟩ := ifB_some h
    simp only [Bool.and_eq_true] at h1
    obtain ⟨h1, h2, h3⟩ := h1
    have h1 := Nat.eq_of_beq_eq_true h1
    have h2 := blt_lt h2
    have h3 := Nat.le_of_ble_eq_true h3
    refine ⟨_, _, _, h, fun t o hv ho => opX_of ho rfl (p := kk < xs.length ∧ j + sz ≤ sz'') ?_ ?_ ?_⟩
    · simp only [eff2, eff, rdOp_ok x T _ hp t hv, hg, if_pos h1, if_true]
    · simp only [preB, rdOp_ok x T _ hp t hv, hg, if_true]; exact decide_eq_true ⟨h2, h3⟩
    · simp only [rdOf, rdOp_ok x T _ hp t hv]; rfl
  | _ => cases h
def cFaddr (off : Nat) (x : Rd) : Core := fun _ T H k => oB (x T) fun p => match p with
  | .ptr b j => getF H b fun o => obBox o fun _ => k (.ptr b (j + off)) [] [b]
  | .pel cs j => k (.pel cs (j + off)) [] []
  | .rp b sz kk j => getF H b fun o => obRow o fun _ _ xs => ifB (Nat.blt kk xs.length) (k (.rp b sz kk (j + off)) [] [b])
  | _ => none
theorem cFaddr_ok (off : Nat) (x : Operand) : CoreOk (.faddr off x) (cFaddr off (rdOp x)) := by
  intro run nm T H k r h
  obtain ⟨p, hp, h⟩ := oB_some h
  cases p with
  | ptr b j =>
    obtain ⟨o, hg, h⟩ := getF_some h
    obtain ⟨cs, rfl, h⟩ := obBox_some h
    refine ⟨_, _, _, h, fun t o hv ho => opX_of ho rfl (p := True) ?_ ?_ ?_⟩
    · simp only [eff2, eff, rdOp_ok x T _ hp t hv, hg]; rfl
    · simp only [preB, rdOp_ok x T _ hp t hv]
    · simp only [rdOf, rdOp_ok x T _ hp t hv]; rfl
  | pel cs j =>
    refine ⟨_, _, _, h, fun t o hv ho => opX_of ho rfl (p := True) ?_ ?_ ?_⟩
    · simp only [eff2, eff, rdOp_ok x T _ hp t hv]; rfl
    · simp only [preB, rdOp_ok x T _ hp t hv]
    · simp only [rdOf, rdOp_ok x T _ hp t hv]; rfl
  | rp b sz kk j =>
    obtain ⟨o, hg, h⟩ := getF_some h
    obtain ⟨e, sz'', xs, rfl, h⟩ := obRow_some h
    obtain ⟨h1, h⟩ := ifB_some h
    have h1 := blt_lt h1
    refine ⟨_, _, _, h, fun t o hv ho => opX_of ho rfl (p := kk < xs.length) ?_ ?_ ?_⟩
    · simp only [eff2, eff, rdOp_ok x T _ hp t hv, hg]
    · simp only [preB, rdOp_ok x T _ hp t hv, hg]; exact decide_eq_true h1
    · simp only [rdOf, rdOp_ok x T _ hp t hv]; rfl
  | _ => cases h
def ovr : List AV → List AV → List AV
  | [], cs => cs
  | y :: ys, [] => y :: ys
  | y :: ys, _ :: cs => y :: ovr ys cs
def splF : Nat → List AV → List AV → List AV
  | 0, cs, ys => ovr ys cs
  | _ + 1, [], ys => ys
  | j + 1, c :: cs, ys => c :: splF j cs ys
theorem ovr_eq : ∀ (ys cs : List AV), ys.length ≤ cs.length → ovr ys cs = ys ++ cs.drop ys.length
  | [], cs, h => rfl
  | y :: ys, [], h => by simp at h
  | y :: ys, c :: cs, h => by simp only [ovr, List.cons_append, List.length_cons, List.drop_succ_cons]; rw [ovr_eq ys cs (by simpa using h)]
theorem splF_eq : ∀ (j : Nat) (cs ys : List AV), j + ys.length ≤ cs.length → splF j cs ys = splice cs j ys
  | 0, cs, ys, h => by simp only [splF, splice, List.take_zero, List.nil_append, Nat.zero_add]; exact ovr_eq ys cs (by omega)
  | j + 1, [], ys, h => by simp at h
  | j + 1, c :: cs, ys, h => by
    simp only [splF]
    rw [splF_eq j cs ys (by simp at h; omega)]
    simp only [splice, List.take_succ_cons, List.cons_append]
    have : j + 1 + ys.length = j + ys.length + 1 := by omega
    rw [this, List.drop_succ_cons]
def stB (k : Kc) (b j sz : Nat) (ys cs : List AV) : RR := ifB (Nat.beq ys.length sz && Nat.ble (j + sz) cs.length) (k (.v undef) [(b, .box (splF j cs ys))] [b])
def stR (k : Kc) (b sz' kk j sz : Nat) (ys : List AV) (e : TypeId) (sz'' : Nat) (xs : List (List AV)) : RR :=
  ifB (Nat.beq sz' sz'' && (Nat.beq ys.length sz && (pureL ys && (Nat.blt kk xs.length && Nat.ble (j + sz) sz'')))) (k (.v undef) [(b, .row e sz'' (xs.set kk (splice (nth xs kk) j ys)))] [b])
def cStore (sz : Nat) (x y : Rd) : Core := fun _ T H k => oB (x T) fun p => oB (y T) fun z => cellsK z fun ys => match p with
  | .ptr b j => getF H b fun o => obBox o (stB k b j sz ys)
  | .rp b sz' kk j => getF H b fun o => obRow o (stR k b sz' kk j sz ys)
  | _ => none
theorem cStore_ok (sz : Nat) (x y : Operand) : CoreOk (.store sz x y) (cStore sz (rdOp x) (rdOp y)) := by
  intro run nm T H k r h
  obtain ⟨p, hp, h⟩ := oB_some h
  obtain ⟨z, hz, h⟩ := oB_some h
  obtain ⟨ys, hy, h⟩ := cellsK_some h
  cases p with
  | ptr b j =>
    obtain ⟨o, hg, h⟩ := getF_some h
    obtain ⟨cs, rfl, h⟩ := obBox_some h
    obtain ⟨h1, h⟩ := ifB_some h
    simp only [Bool.and_eq_true] at h1
    have h2 := Nat.eq_of_beq_eq_true h1.1
    have h3 := Nat.le_of_ble_eq_true h1.2
    rw [splF_eq j cs ys (by omega)] at h
    refine ⟨_, _, _, h, fun t o hv ho => opX_of ho rfl (p := True) ?_ ?_ ?_⟩
    · simp only [eff2, eff, rdOp_ok x T _ hp t hv, rdOp_ok y T _ hz t hv, hg, hy]
      rw [if_pos ⟨h2, h3⟩]
    · simp only [preB, rdOp_ok x T _ hp t hv]
    · simp only [rdOf, rdOp_ok x T _ hp t hv]; rfl
  | rp b sz' kk j =>
    obtain ⟨o, hg, h⟩ := getF_some h
    obtain ⟨e, sz'', xs, rfl, h⟩ := obRow_some h
    obtain ⟨h1, h⟩ := ifB_some h
    simp only [Bool.and_eq_true] at h1
    obtain ⟨h1, h2, h3, h4, h5⟩ := h1
    have h1 := Nat.eq_of_beq_eq_true h1
    have h2 := Nat.eq_of_beq_eq_true h2
    have h4 := blt_lt h4
    have h5 := Nat.le_of_ble_eq_true h5
    refine ⟨_, _, _, h, fun t o hv ho => opX_of ho rfl (p := kk < xs.length ∧ j + sz ≤ sz'') ?_ ?_ ?_⟩
    · simp only [eff2, eff, rdOp_ok x T _ hp t hv, rdOp_ok y T _ hz t hv, hg, hy]
      rw [if_pos ⟨h1, h2, h3⟩]
    · simp only [preB, rdOp_ok x T _ hp t hv, hg]; exact decide_eq_true ⟨h4, h5⟩
    · simp only [rdOf, rdOp_ok x T _ hp t hv]; rfl
  | _ => cases h
def cExt (i : Nat) (x : Rd) : Core := fun _ T _ k => oB (x T) fun p => match p with
  | .tup cs => nthK cs i fun c => k c [] []
  | _ => none
theorem cExt_ok (i : Nat) (x : Operand) : CoreOk (.ext i x) (cExt i (rdOp x)) := by
  intro run nm T H k r h
  obtain ⟨p, hp, h⟩ := oB_some h
  cases p with
  | tup cs =>
    obtain ⟨c, hc, h⟩ := nthK_some h
    refine ⟨_, _, _, h, fun t o hv ho => opX_of ho rfl (p := True) ?_ rfl rfl⟩
    simp only [eff2, eff, rdOp_ok x T _ hp t hv, hc]; rfl
  | _ => cases h
def cFld (ag : Bool) (off sz : Nat) (x : Rd) : Core := fun _ T _ k => oB (x T) fun p => match p with
  | .agg cs => bif ag then subK cs off sz fun c => k (.agg c) [] [] else nthK cs off fun c => k c [] []
  | _ => none
theorem cFld_ok (ag : Bool) (off sz : Nat) (x : Operand) : CoreOk (.fld ag off sz x) (cFld ag off sz (rdOp x)) := by
  intro run nm T H k r h
  obtain ⟨p, hp, h⟩ := oB_some h
  cases p with
  | agg cs =>
    cases ag with
    | true =>
      obtain ⟨hc, h⟩ := subK_some (cs := cs) (j := off) (sz := sz) (k := fun c => k (.agg c) [] []) h
      refine ⟨_, _, _, h, fun t o hv ho => opX_of ho rfl (p := True) ?_ rfl rfl⟩
      simp only [eff2, eff, rdOp_ok x T _ hp t hv, if_true, if_pos hc]; rfl
    | false =>
      obtain ⟨c, hc, h⟩ := nthK_some h
      refine ⟨_, _, _, h, fun t o hv ho => opX_of ho rfl (p := True) ?_ rfl rfl⟩
      simp only [eff2, eff, rdOp_ok x T _ hp t hv, hc]; rfl
  | _ => cases h
def lenV (k : Kc) (v : Value) : RR := match v with
  | .slice _ n _ => k (.v (.int .i64 n)) [] []
  | _ => none
def cLen (x : Rd) : Core := fun _ T H k => oB (x T) fun p => match p with
  | .v v => lenV k v
  | .sl _ xs => k (.v (.int .i64 xs.length)) [] []
  | .own b _ _ n => getF H b fun o => obRow o fun _ _ _ => k (.v (.int .i64 n)) [] [b]
  | _ => none
theorem cLen_ok (x : Operand) : CoreOk (.len x) (cLen (rdOp x)) := by
  intro run nm T H k r h
  obtain ⟨p, hp, h⟩ := oB_some h
  cases p with
  | v v =>
    cases v with
    | slice a n c =>
      refine ⟨_, _, _, h, fun t o hv ho => opX_of ho rfl (p := True) ?_ rfl ?_⟩
      · simp only [eff2, eff, rdOp_ok x T _ hp t hv]; rfl
      · simp only [rdOf, rdOp_ok x T _ hp t hv]; rfl
    | _ => cases h
  | sl sz xs =>
    refine ⟨_, _, _, h, fun t o hv ho => opX_of ho rfl (p := True) ?_ rfl ?_⟩
    · simp only [eff2, eff, rdOp_ok x T _ hp t hv]; rfl
    · simp only [rdOf, rdOp_ok x T _ hp t hv]; rfl
  | own b sz off n =>
    obtain ⟨o, hg, h⟩ := getF_some h
    obtain ⟨e, sz'', xs, rfl, h⟩ := obRow_some h
    refine ⟨_, _, _, h, fun t o hv ho => opX_of ho rfl (p := True) ?_ rfl ?_⟩
    · simp only [eff2, eff, rdOp_ok x T _ hp t hv, hg]; rfl
    · simp only [rdOf, rdOp_ok x T _ hp t hv]; rfl
  | _ => cases h
def natI (z : Int) (k : Nat → RR) : RR := match z with
  | .ofNat n => k n
  | .negSucc _ => none
def intV (v : Value) (k : Int → RR) : RR := match v with
  | .int _ n => k n
  | _ => none
theorem intV_some {v : Value} {k : Int → RR} {r} (h : intV v k = some r) : ∃ q n, v = .int q n ∧ k n = some r := by
  cases v <;> first | exact ⟨_, _, rfl, h⟩ | cases h
theorem natI_some {z : Int} {k : Nat → RR} {r} (h : natI z k = some r) : ∃ n : Nat, z = (n : Int) ∧ k n = some r := by
  cases z with
  | ofNat n => exact ⟨n, rfl, h⟩
  | negSucc n => cases h
def nthR (xs : List (List AV)) (n : Nat) (k : List AV → RR) : RR := match xs with
  | [] => none
  | x :: l => Nat.casesOn n (k x) fun n => nthR l n k
theorem nthR_some : ∀ {xs : List (List AV)} {n : Nat} {k : List AV → RR} {r}, nthR xs n k = some r → n < xs.length ∧ k (nth xs n) = some r
  | [], n, k, r, h => by cases h
  | x :: l, 0, k, r, h => ⟨by simp, h⟩
  | x :: l, n + 1, k, r, h => by
    obtain ⟨h1, h2⟩ := nthR_some (xs := l) (n := n) h
    exact ⟨by simp; omega, by simpa [nth] using h2⟩
def cIaddr (sz : Nat) (x i : Rd) : Core := fun _ T H k => oB (x T) fun p => oB (i T) fun z => vB z fun z => intV z fun z => natI z fun n => match p with
  | .sl sz' xs => ifB (Nat.beq sz sz') (nthR xs n fun cs => k (.pel cs 0) [] [])
  | .own b sz' off len => getF H b fun o => obRow o fun _ sz'' _ => ifB (Nat.beq sz sz' && (Nat.beq sz sz'' && Nat.blt n len)) (k (.rp b sz' (off + n) 0) [] [b])
  | _ => none
theorem cIaddr_ok (sz : Nat) (x i : Operand) : CoreOk (.iaddr sz x i) (cIaddr sz (rdOp x) (rdOp i)) := by
  intro run nm T H k r h
  obtain ⟨p, hp, h⟩ := oB_some h
  obtain ⟨z, hz, h⟩ := oB_some h
  obtain ⟨z, rfl, h⟩ := vB_some h
  obtain ⟨q, z, rfl, h⟩ := intV_some h
  obtain ⟨n, rfl, h⟩ := natI_some h
  cases p with
  | sl sz' xs =>
    obtain ⟨h1, h⟩ := ifB_some h
    obtain ⟨h2, h⟩ := nthR_some h
    have h1 := Nat.eq_of_beq_eq_true h1
    refine ⟨_, _, _, h, fun t o hv ho => opX_of ho rfl (p := (0 : Int) ≤ n ∧ (n : Int) < xs.length) ?_ ?_ ?_⟩
    · simp only [eff2, eff, rdOp_ok x T _ hp t hv, rdOp_ok i T _ hz t hv, if_pos h1, Int.toNat_natCast]
    · simp only [preB, rdOp_ok x T _ hp t hv, rdOp_ok i T _ hz t hv]; exact decide_eq_true ⟨by omega, by omega⟩
    · simp only [rdOf, rdOp_ok x T _ hp t hv]; rfl
  | own b sz' off len =>
    obtain ⟨o, hg, h⟩ := getF_some h
    obtain ⟨e, sz'', xs, rfl, h⟩ := obRow_some h
    obtain ⟨h1, h⟩ := ifB_some h
    simp only [Bool.and_eq_true] at h1
    obtain ⟨h1, h2, h3⟩ := h1
    have h1 := Nat.eq_of_beq_eq_true h1
    have h2 := Nat.eq_of_beq_eq_true h2
    have h3 := blt_lt h3
    refine ⟨_, _, _, h, fun t o hv ho => opX_of ho rfl (p := (0 : Int) ≤ n ∧ (n : Int) < len) ?_ ?_ ?_⟩
    · simp only [eff2, eff, rdOp_ok x T _ hp t hv, rdOp_ok i T _ hz t hv, hg, Int.toNat_natCast]
      rw [if_pos ⟨h1, h2⟩]
    · simp only [preB, rdOp_ok x T _ hp t hv, rdOp_ok i T _ hz t hv]; exact decide_eq_true ⟨by omega, by omega⟩
    · simp only [rdOf, rdOp_ok x T _ hp t hv]; rfl
  | _ => cases h
def cNilc (x : Rd) : Core := fun _ T H k => oB (x T) fun p => match p with
  | .ptr b j => getF H b fun o => obBox o fun _ => k (.ptr b j) [] [b]
  | .pel cs j => k (.pel cs j) [] []
  | .fn f cs => ifB (Nat.blt f 2000000) (k (.fn f cs) [] (AV.nms (.fn f cs)))
  | _ => none
theorem cNilc_ok (x : Operand) : CoreOk (.nilc x) (cNilc (rdOp x)) := by
  intro run nm T H k r h
  obtain ⟨p, hp, h⟩ := oB_some h
  cases p with
  | ptr b j =>
    obtain ⟨o, hg, h⟩ := getF_some h
    obtain ⟨cs, rfl, h⟩ := obBox_some h
    refine ⟨_, _, _, h, fun t o hv ho => opX_of ho rfl (p := True) ?_ rfl ?_⟩
    · simp only [eff2, eff, rdOp_ok x T _ hp t hv, hg]; rfl
    · simp only [rdOf, rdOp_ok x T _ hp t hv]; rfl
  | pel cs j =>
    refine ⟨_, _, _, h, fun t o hv ho => opX_of ho rfl (p := True) ?_ rfl ?_⟩
    · simp only [eff2, eff, rdOp_ok x T _ hp t hv]; rfl
    · simp only [rdOf, rdOp_ok x T _ hp t hv]; rfl
  | fn f cs =>
    obtain ⟨h1, h⟩ := ifB_some h
    have h1 := blt_lt h1
    refine ⟨_, _, _, h, fun t o hv ho => opX_of ho rfl (p := True) ?_ rfl ?_⟩
    · simp only [eff2, eff, rdOp_ok x T _ hp t hv, if_pos h1]; rfl
    · simp only [rdOf, rdOp_ok x T _ hp t hv]; rfl
  | _ => cases h
def notB (b : Bool) : Bool := Bool.casesOn b true false
theorem notB_eq (b : Bool) : notB b = !b := by cases b <;> rfl
def cNot (x : Rd) : Core := fun _ T _ k => oB (x T) fun p => vB p fun p => bB p fun b => k (.v (.bool (notB b))) [] []
theorem cNot_ok (x : Operand) : CoreOk (.un .not x) (cNot (rdOp x)) := by
  intro run nm T H k r h
  obtain ⟨p, hp, h⟩ := oB_some h
  obtain ⟨p, rfl, h⟩ := vB_some h
  obtain ⟨b, rfl, h⟩ := bB_some h
  have h : k (.v (.bool (notB b))) [] [] = some r := h
  rw [notB_eq] at h
  refine ⟨_, _, _, h, fun t o hv ho => opX_of ho rfl (p := True) ?_ rfl rfl⟩
  simp only [eff2, eff, rdOp_ok x T _ hp t hv]; rfl
def wrapK (z : Int) (k : Int → RR) : RR := match z with
  | .ofNat m => bif Nat.ble m 9223372036854775807 then k (.ofNat m) else k (IntKind.i64.wrap z)
  | .negSucc m => bif Nat.ble m 9223372036854775807 then k (.negSucc m) else k (IntKind.i64.wrap z)
theorem wrapK_some {z : Int} {k : Int → RR} {r} (h : wrapK z k = some r) : k (IntKind.i64.wrap z) = some r := by
  cases z with
  | ofNat m =>
    simp only [wrapK] at h
    cases hb : Nat.ble m 9223372036854775807 with
    | true =>
      rw [hb] at h
      have := Nat.le_of_ble_eq_true hb
      have e : IntKind.i64.wrap (Int.ofNat m) = Int.ofNat m := by rw [IntKind.wrap_i64]; simp only [Int.ofNat_eq_natCast]; omega
      rw [e]; exact h
    | false => rw [hb] at h; exact h
  | negSucc m =>
    simp only [wrapK] at h
    cases hb : Nat.ble m 9223372036854775807 with
    | true =>
      rw [hb] at h
      have := Nat.le_of_ble_eq_true hb
      have e : IntKind.i64.wrap (Int.negSucc m) = Int.negSucc m := by rw [IntKind.wrap_i64]; simp only [Int.negSucc_eq]; omega
      rw [e]; exact h
    | false => rw [hb] at h; exact h
def addI (a b : Int) : Int := Int.casesOn a (fun m => Int.casesOn b (fun n => .ofNat (m + n)) fun n => a + b) fun m => a + b
theorem addI_eq (a b : Int) : addI a b = a + b := by cases a <;> cases b <;> rfl
def subI (a b : Int) : Int := Int.casesOn a (fun m => Int.casesOn b (fun n => bif Nat.ble n m then .ofNat (m - n) else .negSucc (n - m - 1)) fun n => a - b) fun m => a - b
theorem subI_eq (a b : Int) : subI a b = a - b := by
  cases a with
  | ofNat m =>
    cases b with
    | ofNat n =>
      simp only [subI]
      cases hb : Nat.ble n m with
      | true => have := Nat.le_of_ble_eq_true hb; simp only [cond_true, Int.ofNat_eq_natCast]; omega
      | false => have : ¬ n ≤ m := fun h => by rw [Nat.ble_eq_true_of_le h] at hb; cases hb
                 simp only [cond_false, Int.ofNat_eq_natCast, Int.negSucc_eq]; omega
    | negSucc n => rfl
  | negSucc m => rfl
def eqI (a b : Int) : Bool := Int.casesOn a (fun m => Int.casesOn b (fun n => Nat.beq m n) fun _ => false) fun m => Int.casesOn b (fun _ => false) fun n => Nat.beq m n
theorem eqI_eq (a b : Int) : eqI a b = (a == b) := by
  cases a <;> cases b <;> simp only [eqI]
  · rename_i m n
    rw [Bool.eq_iff_iff]; simp only [beq_iff_eq, Int.ofNat.injEq]; exact ⟨Nat.eq_of_beq_eq_true, fun h => by subst h; exact Nat.beq_refl m⟩
  · rfl
  · rfl
  · rename_i m n
    rw [Bool.eq_iff_iff]; simp only [beq_iff_eq, Int.negSucc.injEq]; exact ⟨Nat.eq_of_beq_eq_true, fun h => by subst h; exact Nat.beq_refl m⟩
def leI (a b : Int) : Bool := Int.casesOn a (fun m => Int.casesOn b (fun n => Nat.ble m n) fun _ => false) fun m => Int.casesOn b (fun _ => true) fun n => Nat.ble n m
theorem leI_eq (a b : Int) : leI a b = decide (a ≤ b) := by
  cases a <;> cases b <;> simp only [leI]
  · rename_i m n
    rw [Bool.eq_iff_iff, Nat.ble_eq, decide_eq_true_eq]; simp only [Int.ofNat_eq_natCast]; omega
  · symm; rw [decide_eq_false_iff_not]; simp only [Int.ofNat_eq_natCast, Int.negSucc_eq]; omega
  · symm; rw [decide_eq_true_eq]; simp only [Int.ofNat_eq_natCast, Int.negSucc_eq]; omega
  · rename_i m n
    rw [Bool.eq_iff_iff, Nat.ble_eq, decide_eq_true_eq]; simp only [Int.negSucc_eq]; omega
def ltI (a b : Int) : Bool := Bool.casesOn (leI b a) true false
theorem ltI_eq (a b : Int) : ltI a b = decide (a < b) := by
  unfold ltI
  rw [leI_eq]
  by_cases h : b ≤ a
  · rw [decide_eq_true h]; symm; rw [decide_eq_false_iff_not]; omega
  · rw [decide_eq_false h]; symm; rw [decide_eq_true_eq]; omega
def i64K (v : Value) (k : Int → RR) (d : RR) : RR := match v with
  | .int .i64 n => k n
  | _ => d
theorem i64K_some {v : Value} {k : Int → RR} {d : RR} {r} (h : i64K v k d = some r) : (∃ n, v = .int .i64 n ∧ k n = some r) ∨ d = some r := by
  unfold i64K at h
  split at h
  · exact Or.inl ⟨_, rfl, h⟩
  · exact Or.inr h
def binS (op : BinOp) (a b : Value) (k : Kc) : RR := match sbinB op a b with
  | some c => k (.v c) [] []
  | none => match sbinPB op a b with
    | some (true, c) => k (.v c) [] []
    | _ => none
def cBinG (op : BinOp) (x y : Rd) : Core := fun _ T _ k => oB (x T) fun a => vB a fun a => oB (y T) fun b => vB b fun b => binS op a b k
def cBinI (f : Int → Int → (AV → RR) → RR) (op : BinOp) (x y : Rd) : Core := fun _ T _ k => oB (x T) fun a => vB a fun a => oB (y T) fun b => vB b fun b =>
  i64K a (fun m => i64K b (fun n => f m n fun c => k c [] []) (binS op a b k)) (binS op a b k)
theorem binS_ok {op : BinOp} {a b : Value} {k : Kc} {r} (h : binS op a b k = some r) {x y : Operand} {run : RunT} {nm : Nat} {H : Hp} :
    ∃ c, k (.v c) [] [] = some r ∧ ∀ t o, ev t x = some (.v a) → ev t y = some (.v b) → o.op = .bin op x y → opX run nm o t H = some ⟨.v c, [], []⟩ := by
  unfold binS at h
  split at h
  · rename_i c hc
    refine ⟨c, h, fun t o h1 h2 ho => opX_of ho rfl (p := True) ?_ ?_ rfl⟩
    · simp only [eff2, h1, h2, hc]; rfl
    · simp only [preB, h1, h2, sbinB_eq, hc]
  · rename_i hn
    split at h
    · rename_i c hc
      refine ⟨c, h, fun t o h1 h2 ho => opX_of ho rfl (p := true = true) ?_ ?_ rfl⟩
      · simp only [eff2, h1, h2, hn, hc]
      · simp only [preB, h1, h2, sbinB_eq, hn, hc]
    · cases h
theorem cBinG_ok (op : BinOp) (x y : Operand) : CoreOk (.bin op x y) (cBinG op (rdOp x) (rdOp y)) := by
  intro run nm T H k r h
  obtain ⟨a, ha, h⟩ := oB_some h
  obtain ⟨a, rfl, h⟩ := vB_some h
  obtain ⟨b, hb, h⟩ := oB_some h
  obtain ⟨b, rfl, h⟩ := vB_some h
  obtain ⟨c, hk, h⟩ := binS_ok h (x := x) (y := y) (run := run) (nm := nm) (H := H)
  exact ⟨_, _, _, hk, fun t o hv ho => h t o (rdOp_ok x T _ ha t hv) (rdOp_ok y T _ hb t hv) ho⟩
theorem cBinI_ok (f : Int → Int → (AV → RR) → RR) (op : BinOp) (hf : ∀ m n k r, f m n k = some r → ∃ c, sbinB op (.int .i64 m) (.int .i64 n) = some c ∧ k (.v c) = some r) (x y : Operand) :
    CoreOk (.bin op x y) (cBinI f op (rdOp x) (rdOp y)) := by
  intro run nm T H k r h
  obtain ⟨a, ha, h⟩ := oB_some h
  obtain ⟨a, rfl, h⟩ := vB_some h
  obtain ⟨b, hb, h⟩ := oB_some h
  obtain ⟨b, rfl, h⟩ := vB_some h
  have gen : binS op a b k = some r → ∃ y1 u rd, k y1 u rd = some r ∧ ∀ t o, View t T → o.op = .bin op x y → opX run nm o t H = some ⟨y1, u, rd⟩ := fun h => by
    obtain ⟨c, hk, h⟩ := binS_ok h (x := x) (y := y) (run := run) (nm := nm) (H := H)
    exact ⟨_, _, _, hk, fun t o hv ho => h t o (rdOp_ok x T _ ha t hv) (rdOp_ok y T _ hb t hv) ho⟩
  rcases i64K_some h with ⟨m, rfl, h⟩ | h
  · rcases i64K_some h with ⟨n, rfl, h⟩ | h
    · obtain ⟨c, hc, h⟩ := hf m n _ _ h
      refine ⟨.v c, [], [], h, fun t o hv ho => opX_of ho rfl (p := True) ?_ ?_ rfl⟩
      · simp only [eff2, rdOp_ok x T _ ha t hv, rdOp_ok y T _ hb t hv, hc]; rfl
      · simp only [preB, rdOp_ok x T _ ha t hv, rdOp_ok y T _ hb t hv, sbinB_eq, hc]
    · exact gen h
  · exact gen h
def fAdd (m n : Int) (k : AV → RR) : RR := wrapK (addI m n) fun z => k (.v (.int .i64 z))
def fSub (m n : Int) (k : AV → RR) : RR := wrapK (subI m n) fun z => k (.v (.int .i64 z))
def fEql (m n : Int) (k : AV → RR) : RR := k (.v (.bool (eqI m n)))
def fNeq (m n : Int) (k : AV → RR) : RR := k (.v (.bool (notB (eqI m n))))
def fLss (m n : Int) (k : AV → RR) : RR := k (.v (.bool (ltI m n)))
def fLeq (m n : Int) (k : AV → RR) : RR := k (.v (.bool (leI m n)))
def fGtr (m n : Int) (k : AV → RR) : RR := k (.v (.bool (ltI n m)))
def fGeq (m n : Int) (k : AV → RR) : RR := k (.v (.bool (leI n m)))
theorem fAdd_ok : ∀ m n k r, fAdd m n k = some r → ∃ c, sbinB .add (.int .i64 m) (.int .i64 n) = some c ∧ k (.v c) = some r := fun m n k r h => by
  have := wrapK_some h
  rw [addI_eq] at this
  exact ⟨_, by simp only [sbinB, sbin, if_true], this⟩
theorem fSub_ok : ∀ m n k r, fSub m n k = some r → ∃ c, sbinB .sub (.int .i64 m) (.int .i64 n) = some c ∧ k (.v c) = some r := fun m n k r h => by
  have := wrapK_some h
  rw [subI_eq] at this
  exact ⟨_, by simp only [sbinB, sbin, if_true], this⟩
theorem fEql_ok : ∀ m n k r, fEql m n k = some r → ∃ c, sbinB .eql (.int .i64 m) (.int .i64 n) = some c ∧ k (.v c) = some r := fun m n k r h => by
  unfold fEql at h; rw [eqI_eq] at h
  exact ⟨_, by simp only [sbinB, sbin, if_true], h⟩
theorem fNeq_ok : ∀ m n k r, fNeq m n k = some r → ∃ c, sbinB .neq (.int .i64 m) (.int .i64 n) = some c ∧ k (.v c) = some r := fun m n k r h => by
  unfold fNeq at h; rw [eqI_eq, notB_eq] at h
  exact ⟨_, by simp only [sbinB, sbin, if_true]; rfl, h⟩
theorem fLss_ok : ∀ m n k r, fLss m n k = some r → ∃ c, sbinB .lss (.int .i64 m) (.int .i64 n) = some c ∧ k (.v c) = some r := fun m n k r h => by
  unfold fLss at h; rw [ltI_eq] at h
  exact ⟨_, by simp only [sbinB, sbin, if_true], h⟩
theorem fLeq_ok : ∀ m n k r, fLeq m n k = some r → ∃ c, sbinB .leq (.int .i64 m) (.int .i64 n) = some c ∧ k (.v c) = some r := fun m n k r h => by
  unfold fLeq at h; rw [leI_eq] at h
  exact ⟨_, by simp only [sbinB, sbin, if_true], h⟩
theorem fGtr_ok : ∀ m n k r, fGtr m n k = some r → ∃ c, sbinB .gtr (.int .i64 m) (.int .i64 n) = some c ∧ k (.v c) = some r := fun m n k r h => by
  unfold fGtr at h; rw [ltI_eq] at h
  exact ⟨_, by simp only [sbinB, sbin, if_true], h⟩
theorem fGeq_ok : ∀ m n k r, fGeq m n k = some r → ∃ c, sbinB .geq (.int .i64 m) (.int .i64 n) = some c ∧ k (.v c) = some r := fun m n k r h => by
  unfold fGeq at h; rw [leI_eq] at h
  exact ⟨_, by simp only [sbinB, sbin, if_true], h⟩
def cBin (op : BinOp) (x y : Rd) : Core := match op with
  | .add => cBinI fAdd .add x y
  | .sub => cBinI fSub .sub x y
  | .eql => cBinI fEql .eql x y
  | .neq => cBinI fNeq .neq x y
  | .lss => cBinI fLss .lss x y
  | .leq => cBinI fLeq .leq x y
  | .gtr => cBinI fGtr .gtr x y
  | .geq => cBinI fGeq .geq x y
  | op => cBinG op x y
theorem cBin_ok (op : BinOp) (x y : Operand) : CoreOk (.bin op x y) (cBin op (rdOp x) (rdOp y)) := by
  cases op
  case add => exact cBinI_ok _ _ fAdd_ok x y
  case sub => exact cBinI_ok _ _ fSub_ok x y
  case eql => exact cBinI_ok _ _ fEql_ok x y
  case neq => exact cBinI_ok _ _ fNeq_ok x y
  case lss => exact cBinI_ok _ _ fLss_ok x y
  case leq => exact cBinI_ok _ _ fLeq_ok x y
  case gtr => exact cBinI_ok _ _ fGtr_ok x y
  case geq => exact cBinI_ok _ _ fGeq_ok x y
  all_goals exact cBinG_ok _ x y
end Go.Eng

namespace Go.Eng
open Go
def opB : Nat := 1000000000
def opCode : BinOp → Nat
  | .rem => 1
  | .lss => 2
  | .leq => 3
  | .gtr => 4
  | .geq => 5
  | .eql => 6
  | .neq => 7
  | .add => 8
  | .sub => 9
  | .mul => 10
  | .quo => 11
  | _ => 0
def kCode : IntKind → Nat
  | .i64 => 1
  | .u8 => 2
  | .u64 => 3
  | _ => 0
def binV (op : BinOp) (a b : AV) : Option Value := match a, b with
  | .v a, .v b => (match sbinB op a b with
    | some c => some c
    | none => match sbinPB op a b with
      | some (true, c) => some c
      | _ => none)
  | _, _ => none
def convV (q : IntKind) (a : AV) : Option Value := match a with
  | .v (.int _ n) => some (.int q (q.wrap n))
  | _ => none
def OpFact (u : Use) : Prop := (∀ op a b, u.f = opB + opCode op → u.xs = [a, b] → ∃ c, u.r = .v c ∧ binV op a b = some c) ∧ ∀ q a, u.f = opB + 100 + kCode q → u.xs = [a] → ∃ c, u.r = .v c ∧ convV q a = some c
def UseOk (P : Program) (u : Use) : Prop := (u.f < opB → FnG P u.f u.xs u.bs [] u.r u.bs' []) ∧ (opB ≤ u.f → OpFact u)
theorem UseOk.fn {P : Program} {u : Use} (h : UseOk P u) (hb : Nat.blt u.f opB = true) : FnG P u.f u.xs u.bs [] u.r u.bs' [] := h.1 (Nat.lt_of_lt_of_le (Nat.lt_of_succ_le (Nat.le_of_ble_eq_true hb)) (Nat.le_refl _))
def Valid (P : Program) (O : List Use) : Prop := ∀ u ∈ O, UseOk P u
theorem Valid.app {P : Program} {L O : List Use} (h : Valid P (L ++ O)) : Valid P L ∧ Valid P O :=
  ⟨fun u hu => h u (List.mem_append_left _ hu), fun u hu => h u (List.mem_append_right _ hu)⟩
theorem Valid.nil {P : Program} : Valid P [] := fun u hu => by simp at hu
structure RO where
  vs : List AV
  h : List (Nat × Ob)
  O : List Use
  dp : Bool
def topD (m : Nat) : List AV → List Nat
  | [] => []
  | .own b _ _ _ :: l => b :: topD m l
  | .ptr b _ :: l => bif Nat.blt b m then topD m l else b :: topD m l
  | .agg cs :: l => topO m cs ++ topD m l
  | _ :: l => topD m l
def tops (dp : Bool) (m : Nat) (vs : List AV) : List Nat := bif dp then topD m vs else topO m vs
abbrev RunO := FuncId → List AV → List (List AV) → List Ob → Option RO
def HEq' (h h' : List (Nat × Ob)) : Prop := ∀ b, get h b = get h' b
def RunOOk (P : Program) (run : RunO) : Prop := ∀ f xs bs gs vs h O, ∀ dp, run f xs bs gs = some ⟨vs, h, O, dp⟩ → Valid P O →
  ∃ t res, retV t h res = some vs ∧ ∀ r bs' es, Fin res r bs' es t h → FnG P f xs bs gs r bs' es
structure RecO where
  r : Rec
  O : List Use
def callBO (run : RunO) (nm : Nat) (h : List (Nat × Ob)) (f : FuncId) (ys : List AV) (B G Z : List Nat) : Option RecO :=
  match trL h (stay h Z) (stay h Z) ys with
  | some ys1 => match fzBx h (stay h Z) B with
    | some Bx => match trL [] (inS B G) (invS B G) ys1 with
      | some xs => match inB1 (boxL Bx ++ (kills Z ++ h)) (inS B G) (invS B G) B with
        | some bs => match gsOf (boxL Bx ++ (kills Z ++ h)) G with
          | some gs => match run f xs bs gs with
            | some ⟨vs, h', O, dp⟩ => match finG B.length (tops dp B.length vs).eraseDups vs h' with
              | some (r, bs', es) => match tr [] (outS B nm es.length) (invO B nm es.length) r with
                | some r' => match trLL (outS B nm es.length) (invO B nm es.length) bs' with
                  | some cs' => bif (decide (B.length ≤ 4) && (decide (G.length ≤ 4) && (decide ((B ++ G).Nodup) && (decide (bs'.length = B.length) && decide (es.length ≤ 8))))) && (rowsAt h Z && B.all (fun b => !Z.contains b)) then
                      some ⟨⟨r', (obsFrom nm es ++ (boxesAt B cs' ++ kills G)) ++ (boxL Bx ++ kills Z), deepL ys ++ (B ++ (G ++ (Z ++ cont h B)))⟩, O⟩ else none
                  | none => none
                | none => none
              | none => none
            | none => none
          | none => none
        | none => none
      | none => none
    | none => none
  | none => none
def callXO (kl : Bool) (run : RunO) (nm : Nat) (h : List (Nat × Ob)) (f : FuncId) (ys : List AV) : Option RecO :=
  match reachN h ys with
  | [] => match trL h [] [] ys with
    | some xs => match run f xs [] [] with
      | some ⟨vs, h', O, dp⟩ => match finG 0 (tops dp 0 vs).eraseDups vs h' with
        | some (r, _, es) => bif decide (es.length ≤ 8) && expA es.length r then
            (bif na r && es.all naB then some ⟨⟨sh nm r, obsFrom nm es, deepL ys⟩, O⟩
              else bif kl && (rowsAt h (deepL ys) && pureL xs) then some ⟨⟨sh nm r, obsFrom nm es ++ kills (deepL ys), deepL ys⟩, O⟩ else none)
            else none
        | none => none
      | none => callBO run nm h f ys [] (ownsL ys).eraseDups ((rowN h (deepL ys)).filter fun b => !(ownsL ys).contains b)
    | none => none
  | B => match callBO run nm h f ys B [] (rowN h (deepL ys ++ cont h B)).eraseDups with
    | some r => some r
    | none => bif (ownsL ys).isEmpty then none else callBO run nm h f ys B (ownsL ys).eraseDups ((rowN h (deepL ys ++ cont h B)).eraseDups.filter fun b => !(ownsL ys).contains b)
open Classical in
noncomputable def rstar (P : Program) (run : RunO) : RunT := fun f xs bs gs => match run f xs bs gs with
  | some ⟨vs, h, O, _⟩ => if Valid P O then some (vs, h) else none
  | none => none
theorem rstar_ok {P : Program} {run : RunO} (hr : RunOOk P run) : RunOk P (rstar P run) := by
  intro f xs bs gs vs h e
  simp only [rstar] at e
  split at e
  · rename_i vs' h' O dp hO
    split at e
    · rename_i hv
      simp only [Option.some.injEq, Prod.mk.injEq] at e
      obtain ⟨rfl, rfl⟩ := e
      exact hr _ _ _ _ _ _ _ _ hO hv
    · cases e
  · cases e
theorem rstar_some {P : Program} {run : RunO} {f : FuncId} {xs : List AV} {bs : List (List AV)} {gs : List Ob} {vs : List AV} {h : List (Nat × Ob)} {O : List Use} {dp : Bool} (e : run f xs bs gs = some ⟨vs, h, O, dp⟩) (hv : Valid P O) :
    rstar P run f xs bs gs = some (vs, h) := by simp only [rstar, e, if_pos hv]
theorem callBO_some {P : Program} {run : RunO} {nm : Nat} {h : List (Nat × Ob)} {f : FuncId} {ys : List AV} {B G Z : List Nat} {r : Rec} {O : List Use} (e : callBO run nm h f ys B G Z = some ⟨r, O⟩) (hv : Valid P O) :
    ∃ tl, callB tl (rstar P run) nm h f ys B G Z = some r := by
  simp only [callBO] at e
  split at e
  · rename_i ys1 hy
    split at e
    · rename_i Bx hb
      split at e
      · rename_i xs hx
        split at e
        · rename_i bs hbs
          split at e
          · rename_i gs hgs
            split at e
            · rename_i vs h1 O1 dp hr
              split at e
              · rename_i r0 bs' es hF
                split at e
                · rename_i r' hr'
                  split at e
                  · rename_i cs' hcs
                    generalize hd : ((decide (B.length ≤ 4) && (decide (G.length ≤ 4) && (decide ((B ++ G).Nodup) && (decide (bs'.length = B.length) && decide (es.length ≤ 8))))) && (rowsAt h Z && B.all (fun b => !Z.contains b))) = q at e
                    cases q with
                    | false => cases e
                    | true =>
                      simp only [cond_true, Option.some.injEq, RecO.mk.injEq] at e
                      obtain ⟨rfl, rfl⟩ := e
                      refine ⟨tops dp B.length, ?_⟩
                      simp only [callB]
                      simp only [hy, hb, hx, hbs, hgs, rstar_some hr hv, hF, hr', hcs, hd, cond_true]
                  · cases e
                · cases e
              · cases e
            · cases e
          · cases e
        · cases e
      · cases e
    · cases e
  · cases e
theorem callBO_ok {P : Program} {run : RunO} (hrun : RunOOk P run) {nm : Nat} {h : List (Nat × Ob)} {f : FuncId} {ys : List AV} {B G Z : List Nat} {r : Rec} {O : List Use} (e : callBO run nm h f ys B G Z = some ⟨r, O⟩) (hv : Valid P O) : CallD P nm f ys h r := by
  obtain ⟨tl, h1⟩ := callBO_some e hv
  exact callB_ok (rstar_ok hrun) h1
theorem callXO_ok {P : Program} {kl : Bool} {run : RunO} (hrun : RunOOk P run) {nm : Nat} {h : List (Nat × Ob)} {f : FuncId} {ys : List AV} {r : Rec} {O : List Use} (e : callXO kl run nm h f ys = some ⟨r, O⟩) (hv : Valid P O) : CallD P nm f ys h r := by
  simp only [callXO] at e
  cases hR : reachN h ys with
  | nil =>
    simp only [hR] at e
    split at e
    · rename_i xs hx
      split at e
      · rename_i vs h' O1 dp hr
        split at e
        · rename_i r0 bs es hF
          have ha : rvL h [] [] xs ys := trL_rv ys xs hx
          have hfn : Valid P O1 → Fn P f xs [] r0 [] es ∧ es.all rowOk = true := by
            intro hv1
            obtain ⟨t, res, hrv, hrun'⟩ := hrun _ _ _ _ _ _ _ _ hr hv1
            obtain ⟨hFin, hl, hes⟩ := finG_ok hrv hF
            have hb0 : bs = [] := List.length_eq_zero_iff.1 hl
            subst hb0
            exact ⟨(hrun' _ _ _ hFin).toFn, hes⟩
          generalize hc : (decide (es.length ≤ 8) && expA es.length r0) = q at e
          cases q with
          | false => cases e
          | true =>
            simp only [cond_true] at e
            simp only [Bool.and_eq_true, decide_eq_true_eq] at hc
            generalize hn : (na r0 && es.all naB) = q at e
            cases q with
            | true =>
              simp only [cond_true, Option.some.injEq, RecO.mk.injEq] at e
              obtain ⟨rfl, rfl⟩ := e
              obtain ⟨hFn, hes⟩ := hfn hv
              simp only [Bool.and_eq_true, List.all_eq_true] at hn
              exact hFn.callS nm ha hes (fun o ho => naB_ok (hn.2 o ho)) hc.1 hc.2 hn.1
            | false =>
              simp only [cond_false] at e
              generalize hz : (kl && (rowsAt h (deepL ys) && pureL xs)) = q at e
              cases q with
              | false => cases e
              | true =>
                simp only [cond_true, Option.some.injEq, RecO.mk.injEq] at e
                obtain ⟨rfl, rfl⟩ := e
                obtain ⟨hFn, hes⟩ := hfn hv
                simp only [Bool.and_eq_true] at hz
                intro h2 hh Q hQ
                refine wpCall_fz (deepL ys) (fun b hb => ?_) (rvL_stay (h := h) hh xs ys (fun b hb => hb) ha) ?_
                · obtain ⟨e1, sz, xs1, hx1⟩ := rowsAt_get _ hz.2.1 b hb
                  exact ⟨e1, sz, xs1, by rw [hh b hb]; exact hx1⟩
                · exact (hFn.callE (h := kills (deepL ys) ++ h2) hz.2.2 hes hc.1 hc.2) _ (fun _ _ => rfl) Q (by simpa only [List.append_assoc] using hQ)
        · cases e
      · exact callBO_ok hrun e hv
    · cases e
  | cons b B =>
    simp only [hR] at e
    split at e
    · rename_i r1 hr1
      cases e
      exact callBO_ok hrun hr1 hv
    · generalize (ownsL ys).isEmpty = q at e
      cases q with
      | true => cases e
      | false => exact callBO_ok hrun e hv
theorem callP0_ok {P : Program} {run : RunO} (hrun : RunOOk P run) {nm : Nat} {h : List (Nat × Ob)} {f : FuncId} {ys : List AV} {vs : List AV} {h' : List (Nat × Ob)} {O : List Use} {dp : Bool} (hp : pureL ys = true)
    (hr : run f ys [] [] = some ⟨vs, h', O, dp⟩) (hv : Valid P O) {r : AV} {bs : List (List AV)} {es : List Ob} {Os : List Nat} (hF : finG 0 Os vs h' = some (r, bs, es)) (hc : (decide (es.length ≤ 8) && expA es.length r) = true) :
    CallD P nm f ys h ⟨sh nm r, obsFrom nm es, []⟩ := by
  obtain ⟨t, res, hrv, hrun'⟩ := hrun _ _ _ _ _ _ _ _ hr hv
  obtain ⟨hFin, hl, hes⟩ := finG_ok hrv hF
  have hb0 : bs = [] := List.length_eq_zero_iff.1 hl
  subst hb0
  simp only [Bool.and_eq_true, decide_eq_true_eq] at hc
  exact ((hrun' _ _ _ hFin).toFn).callE hp hes hc.1 hc.2
def noLo (h : List (Nat × Ob)) : Bool := match h with
  | [] => true
  | p :: l => bif Nat.ble 4 p.1 then noLo l else false
theorem noLo_get : ∀ {h : List (Nat × Ob)} {b : Nat}, noLo h = true → b < 4 → get h b = none
  | [], b, _, _ => rfl
  | p :: l, b, hh, hb => by
    obtain ⟨a, o⟩ := p
    simp only [noLo] at hh
    cases h1 : Nat.ble 4 a with
    | false => rw [h1] at hh; cases hh
    | true =>
      rw [h1] at hh
      have := Nat.le_of_ble_eq_true h1
      simp only [get]
      rw [if_neg (by omega)]
      exact noLo_get hh hb
theorem callP1_ok {P : Program} {run : RunO} (hrun : RunOOk P run) {nm : Nat} {h : List (Nat × Ob)} {f : FuncId} {ys : List AV} {vs : List AV} {h' : List (Nat × Ob)} {O : List Use} {dp : Bool} (hp : pureL ys = true)
    (hr : run f ys [] [] = some ⟨vs, h', O, dp⟩) (hv : Valid P O) (hpv : pureL vs = true) (hlo : noLo h' = true) : CallD P nm f ys h ⟨retOne vs, [], []⟩ := by
  obtain ⟨t, res, hrv, hrun'⟩ := hrun _ _ _ _ _ _ _ _ hr hv
  have hpr : (retOne vs).pure = true := by
    unfold retOne
    split
    · simpa [pureL] using hpv
    · simpa [AV.pure] using hpv
  have hk : okS h' [] [] [] = true := by
    simp only [okS, keep1, noLo_get hlo (show (0:Nat) < 4 by omega), noLo_get hlo (show (1:Nat) < 4 by omega), noLo_get hlo (show (2:Nat) < 4 by omega), noLo_get hlo (show (3:Nat) < 4 by omega)]
    simp
  have := (hrun' (retOne vs) [] [] (Fin.eq0 vs hrv hk hpr rfl)).toFn
  exact this.call0 hp hpr
end Go.Eng

namespace Go.Eng
open Go
def rdsK (rs : List Rd) (T : Fr) (k : List AV → RR) : RR := match rs with
  | [] => k []
  | r :: l => oB (r T) fun x => rdsK l T fun xs => k (x :: xs)
theorem rdsK_some : ∀ {xs : List Operand} {T : Fr} {k : List AV → RR} {r}, rdsK (xs.map rdOp) T k = some r → ∃ ys, k ys = some r ∧ ∀ t, View t T → evL t xs = some ys
  | [], T, k, r, h => ⟨[], h, fun t _ => rfl⟩
  | x :: l, T, k, r, h => by
    simp only [List.map, rdsK] at h
    obtain ⟨y, hy, h⟩ := oB_some h
    obtain ⟨ys, hk, hys⟩ := rdsK_some h
    exact ⟨y :: ys, hk, fun t hv => by simp only [evL, rdOp_ok x T y hy t hv, hys t hv]⟩
def memL (k : Nat) : List Nat → Bool
  | [] => false
  | j :: l => bif Nat.beq j k then true else memL k l
def dedL : List Nat → List Nat
  | [] => []
  | k :: l => bif memL k l then dedL l else k :: dedL l
theorem memL_mem : ∀ {k : Nat} {l : List Nat}, memL k l = true → k ∈ l
  | k, [], h => by cases h
  | k, j :: l, h => by
    simp only [memL] at h
    cases hb : Nat.beq j k with
    | true => rw [Nat.eq_of_beq_eq_true hb]; exact List.mem_cons_self ..
    | false => rw [hb] at h; exact List.mem_cons_of_mem _ (memL_mem h)
theorem dedL_mem : ∀ {k : Nat} {l : List Nat}, k ∈ l → k ∈ dedL l
  | k, j :: l, h => by
    simp only [dedL]
    cases hb : memL j l with
    | true =>
      rw [cond_true]
      rcases List.mem_cons.1 h with rfl | h
      · exact dedL_mem (memL_mem hb)
      · exact dedL_mem h
    | false =>
      rw [cond_false]
      rcases List.mem_cons.1 h with rfl | h
      · exact List.mem_cons_self ..
      · exact List.mem_cons_of_mem _ (dedL_mem h)
def tmpK (ks : List (Nat × Rd)) (T : Fr) (k : List (Nat × AV) → RR) : RR := match ks with
  | [] => k []
  | p :: l => oB (p.2 T) fun x => tmpK l T fun xs => k ((p.1, x) :: xs)
def ksOf (op : SOp) : List (Nat × Rd) := (dedL (tmpsO (opnds op))).map fun k => (k, rdT k)
theorem tmpK_some : ∀ {l : List Nat} {T : Fr} {k : List (Nat × AV) → RR} {r}, tmpK (l.map fun k => (k, rdT k)) T k = some r → ∃ t', k t' = some r ∧ ∀ j ∈ l, ∃ x, get t' j = some x ∧ getT T j = some x
  | [], T, k, r, h => ⟨[], h, fun j hj => by simp at hj⟩
  | i :: l, T, k, r, h => by
    simp only [List.map, tmpK] at h
    obtain ⟨x, hx, h⟩ := oB_some h
    obtain ⟨t', hk, ht⟩ := tmpK_some h
    refine ⟨(i, x) :: t', hk, fun j hj => ?_⟩
    by_cases e : i = j
    · subst e; exact ⟨x, get_same _ _ _, rdT_get hx⟩
    · rw [get_ne _ _ _ _ e]
      rcases List.mem_cons.1 hj with rfl | hj
      · exact absurd rfl e
      · exact ht j hj
def Ag (t t' : List (Nat × AV)) (l : List Operand) : Prop := ∀ x ∈ l, ev t x = ev t' x
theorem evL_ag {t t' : List (Nat × AV)} : ∀ (l : List Operand), Ag t t' l → evL t l = evL t' l
  | [], _ => rfl
  | x :: l, h => by simp only [evL, h x (List.mem_cons_self ..), evL_ag l (fun y hy => h y (List.mem_cons_of_mem _ hy))]
theorem partsA_ag {t t' : List (Nat × AV)} : ∀ (l : List (Nat × Nat × Operand)), Ag t t' (l.map fun p => p.2.2) → partsA t l = partsA t' l
  | [], _ => rfl
  | (a, b, x) :: l, h => by
    simp only [partsA, h x (by simp), partsA_ag l (fun y hy => h y (by simp only [List.map_cons]; exact List.mem_cons_of_mem _ hy))]
theorem partsR_ag {t t' : List (Nat × AV)} {sz : Nat} : ∀ (l : List (Nat × Operand)), Ag t t' (l.map fun p => p.2) → partsR t sz l = partsR t' sz l
  | [], _ => rfl
  | (a, x) :: l, h => by
    simp only [partsR, h x (by simp), partsR_ag l (fun y hy => h y (by simp only [List.map_cons]; exact List.mem_cons_of_mem _ hy))]
theorem bound_ag {t t' : List (Nat × AV)} {d : Nat} : ∀ (o : Option Operand), Ag t t' o.toList → bound t d o = bound t' d o
  | none, _ => rfl
  | some x, h => by simp only [bound, h x (by simp)]
theorem eff2_ag {nm : Nat} {t t' : List (Nat × AV)} {h : Hp} {op : SOp} (hp : plainOp op = true) (ha : Ag t t' (opnds op)) :
    eff2 nm t h op = eff2 nm t' h op ∧ preB t h op = preB t' h op ∧ rdOf t op = rdOf t' op := by
  cases op
  case build zs ps => simp only [eff2, eff, preB, rdOf, partsA_ag ps ha, and_self]
  case bslice e sz zs len ps => simp only [eff2, eff, preB, rdOf, partsR_ag ps ha, and_self]
  case mkfn f cs => simp only [eff2, eff, preB, rdOf, evL_ag cs ha, and_self]
  case mkmfn f cs => simp only [eff2, eff, preB, rdOf, evL_ag cs ha, and_self]
  case minmax mx xs => simp only [eff2, eff, preB, rdOf, evL_ag xs ha, and_self]
  case call f args => simp [plainOp] at hp
  case isnil neg x => simp [plainOp] at hp
  case slice sz x lo hi mx =>
    have h1 := ha x (by simp [opnds])
    have h2 : ∀ d, bound t d lo = bound t' d lo := fun d => bound_ag lo fun y hy => ha y (by simp only [opnds]; simp [hy])
    have h3 : ∀ d, bound t d hi = bound t' d hi := fun d => bound_ag hi fun y hy => ha y (by simp only [opnds]; simp [hy])
    cases mx with
    | none =>
      simp only [eff2, eff, preB, rdOf, h1, h2, h3, and_self]
      refine ⟨?_, trivial⟩
      generalize ev t' x = X
      generalize bound t' 0 lo = Y
      rcases X with _ | X
      · cases Y <;> rfl
      · cases X with
        | v v => cases v with
          | slice a n c => cases a with
            | none => cases n <;> cases c <;> cases Y <;> rfl
            | some a => cases Y <;> rfl
          | _ => cases Y <;> rfl
        | _ => cases Y <;> rfl
    | some m =>
      have h5 := ha m (by simp [opnds])
      cases hi with
      | none => simp only [eff2, eff, preB, rdOf, h1, h2, h3, h5, and_self]
      | some y =>
        have h4 := ha y (by simp [opnds])
        simp only [eff2, eff, preB, rdOf, h1, h2, h3, h4, h5, and_self]
        refine ⟨?_, trivial⟩
        generalize ev t' x = X
        generalize bound t' 0 lo = Y
        rcases X with _ | X
        · cases Y <;> rfl
        · cases X with
          | v v => cases v with
            | slice a n c => cases a with
              | none => cases n <;> cases c <;> cases Y <;> first | rfl | (simp only [h4, h5]; done)
              | some a => cases Y <;> rfl
            | _ => cases Y <;> rfl
          | _ => cases Y <;> first | rfl | (simp only [h4, h5]; done)
  case sslice x lo hi =>
    have h1 := ha x (by simp [opnds])
    have h2 : ∀ d, bound t d lo = bound t' d lo := fun d => bound_ag lo fun y hy => ha y (by simp only [opnds]; simp [hy])
    have h3 : ∀ d, bound t d hi = bound t' d hi := fun d => bound_ag hi fun y hy => ha y (by simp only [opnds]; simp [hy])
    simp only [eff2, eff, preB, rdOf, h1, h2, h3, and_self]
  all_goals
    simp only [opnds, Ag, List.mem_cons, List.not_mem_nil, or_false, forall_eq_or_imp, forall_eq, false_implies, implies_true] at ha
    simp only [eff2, eff, preB, rdOf, ha, and_self]
theorem contentsN_heq {h H : Hp} (e : get h = get H) (sz : Nat) (x : Option AV) : contentsN h sz x = contentsN H sz x := by
  unfold contentsN
  simp only [e]
theorem contentsB_heq {h H : Hp} (e : get h = get H) (sz : Nat) (x : Option AV) : contentsB h sz x = contentsB H sz x := by
  unfold contentsB
  simp only [e]
theorem eff2_heq {nm : Nat} {t : List (Nat × AV)} {h H : Hp} (hh : HEq' h H) (op : SOp) : eff2 nm t h op = eff2 nm t H op ∧ preB t h op = preB t H op := by
  have e : get h = get H := funext hh
  have e1 := contentsN_heq e
  have e2 := contentsB_heq e
  cases op
  case slice sz x lo hi mx => cases mx <;> simp only [eff2, eff, preB, e, e1, e2, and_self]
  all_goals simp only [eff2, eff, preB, e, e1, e2, and_self]
theorem opX_heq {run : RunT} {nm : Nat} {o : SOper} {t : List (Nat × AV)} {h H : Hp} (hh : HEq' h H) (hc : ∀ f as, o.op ≠ .call f as) : opX run nm o t h = opX run nm o t H := by
  cases hp : plainOp o.op with
  | true => rw [opX_plain hp, opX_plain hp, (eff2_heq (nm := nm) (t := t) hh o.op).1, (eff2_heq (nm := nm) (t := t) hh o.op).2]
  | false =>
    obtain ⟨dst, op, guard, af⟩ := o
    cases op
    case call f as => exact absurd rfl (hc f as)
    case isnil neg x => rfl
    all_goals simp [plainOp] at hp
def cGen (op : SOp) (ks : List (Nat × Rd)) : Core := fun nm T H k => tmpK ks T fun t =>
  match eff2 nm t H op with
  | some e => bif preB t H op then k e.val e.upd (rdOf t op) else none
  | none => none
theorem ag_of {op : SOp} {T : Fr} {t t' : List (Nat × AV)} (ht : ∀ j ∈ dedL (tmpsO (opnds op)), ∃ x, get t' j = some x ∧ getT T j = some x) (hv : View t T) : Ag t t' (opnds op) := by
  have key : ∀ l : List Operand, (∀ j ∈ tmpsO l, ∃ x, get t' j = some x ∧ getT T j = some x) → Ag t t' l := by
    intro l
    induction l with
    | nil => intro _ x hx; simp at hx
    | cons y l ih =>
      intro h x hx
      rcases List.mem_cons.1 hx with rfl | hx
      · cases x with
        | tmp k =>
          obtain ⟨z, h1, h2⟩ := h k (by simp [tmpsO])
          simp only [ev, h1, hv k z h2]
        | _ => rfl
      · refine ih (fun j hj => h j ?_) x hx
        cases y <;> simp [tmpsO, hj]
  exact key _ fun j hj => ht j (dedL_mem hj)
theorem cGen_ok (op : SOp) (hp : plainOp op = true) : CoreOk op (cGen op (ksOf op)) := by
  intro run nm T H k r h
  obtain ⟨t', h, ht⟩ := tmpK_some h
  split at h
  · rename_i e he
    cases hb : preB t' H op with
    | false => rw [hb] at h; cases h
    | true =>
      rw [hb] at h
      refine ⟨_, _, _, h, fun t o hv ho => ?_⟩
      obtain ⟨h1, h2, h3⟩ := eff2_ag (nm := nm) (h := H) hp (ag_of ht hv)
      obtain ⟨p, y, u⟩ := e
      exact opX_of ho hp (h1.trans he) (h2.trans hb) h3
  · cases h
def partsK (ps : List (Nat × Nat × Rd)) (T : Fr) (cs : List AV) (k : List AV → RR) : RR := match ps with
  | [] => k cs
  | p :: l => oB (p.2.2 T) fun y => cellsK y fun ys => bif Nat.beq ys.length p.2.1 then partsK l T (splF p.1 cs ys) k else none
theorem partsK_some : ∀ {ps : List (Nat × Nat × Operand)} {T : Fr} {cs : List AV} {k : List AV → RR} {r}, (∀ p ∈ ps, p.1 + p.2.1 ≤ cs.length) → partsK (ps.map fun p => (p.1, p.2.1, rdOp p.2.2)) T cs k = some r →
    ∃ cs', k cs' = some r ∧ ∀ t, View t T → ∃ l, partsA t ps = some l ∧ fillA cs l = some cs'
  | [], T, cs, k, r, _, h => ⟨cs, h, fun t _ => ⟨[], rfl, rfl⟩⟩
  | (off, sz, x) :: ps, T, cs, k, r, hl, h => by
    simp only [List.map, partsK] at h
    obtain ⟨y, hy, h⟩ := oB_some h
    obtain ⟨ys, hc, h⟩ := cellsK_some h
    cases hb : Nat.beq ys.length sz with
    | false => rw [hb] at h; cases h
    | true =>
      rw [hb] at h
      have hsz := Nat.eq_of_beq_eq_true hb
      have h0 : off + sz ≤ cs.length := hl (off, sz, x) (List.mem_cons_self ..)
      rw [cond_true, splF_eq off cs ys (by omega)] at h
      have hlen : (splice cs off ys).length = cs.length := by simp only [splice, List.length_append, List.length_take, List.length_drop]; omega
      obtain ⟨cs', hk, ht⟩ := partsK_some (fun p hp => by rw [hlen]; exact hl p (List.mem_cons_of_mem _ hp)) h
      refine ⟨cs', hk, fun t hv => ?_⟩
      obtain ⟨l, h1, h2⟩ := ht t hv
      refine ⟨(off, ys) :: l, ?_, ?_⟩
      · simp only [partsA, rdOp_ok x T y hy t hv, h1, hc, if_pos hsz]
      · simp only [fillA]; rw [if_pos (by omega)]; exact h2
def fitsB (n : Nat) : List (Nat × Nat × Operand) → Bool
  | [] => true
  | p :: l => bif Nat.ble (p.1 + p.2.1) n then fitsB n l else false
theorem fitsB_ok : ∀ {n : Nat} {l : List (Nat × Nat × Operand)}, fitsB n l = true → ∀ p ∈ l, p.1 + p.2.1 ≤ n
  | n, [], _, p, hp => by simp at hp
  | n, q :: l, h, p, hp => by
    simp only [fitsB] at h
    cases hb : Nat.ble (q.1 + q.2.1) n with
    | false => rw [hb] at h; cases h
    | true =>
      rw [hb] at h
      rcases List.mem_cons.1 hp with rfl | hp
      · exact Nat.le_of_ble_eq_true hb
      · exact fitsB_ok h p hp
def cBuild (zs : List AV) (ps : List (Nat × Nat × Rd)) : Core := fun _ T _ k => partsK ps T zs fun cs => k (.agg cs) [] []
theorem cBuild_ok (zs : List Value) (ps : List (Nat × Nat × Operand)) (hf : fitsB zs.length ps = true) : CoreOk (.build zs ps) (cBuild (zs.map .v) (ps.map fun p => (p.1, p.2.1, rdOp p.2.2))) := by
  intro run nm T H k r h
  obtain ⟨cs, hk, ht⟩ := partsK_some (fun p hp => by rw [List.length_map]; exact fitsB_ok hf p hp) h
  refine ⟨_, _, _, hk, fun t o hv ho => opX_of ho rfl (p := True) ?_ rfl rfl⟩
  obtain ⟨l, h1, h2⟩ := ht t hv
  simp only [eff2, eff, h1, h2]; rfl
def cIsnil (neg : Bool) (x : Rd) : Core := fun _ T _ k => oB (x T) fun y => match nilK (some y) with
    | some (some b) => k (.v (.bool (if neg then !b else b))) [] []
    | _ => none
theorem cIsnil_ok (neg : Bool) (x : Operand) : CoreOk (.isnil neg x) (cIsnil neg (rdOp x)) := by
  intro run nm T H k r h
  obtain ⟨y, hy, h⟩ := oB_some h
  split at h
  · rename_i b hb
    refine ⟨_, _, _, h, fun t o hv ho => ?_⟩
    obtain ⟨dst, op, guard, af⟩ := o
    subst ho
    simp only [opX, rdOp_ok x T y hy t hv, hb]
  · cases h
def coreOf (op : SOp) : Core := match op with
  | .mov x => cMov (rdOp x)
  | .pick c a b => cPick (rdOp c) (rdOp a) (rdOp b)
  | .alloc zs => cAlloc (zs.map .v)
  | .box x => cBox (rdOp x)
  | .build zs ps => bif fitsB zs.length ps then cBuild (zs.map .v) (ps.map fun p => (p.1, p.2.1, rdOp p.2.2)) else cGen (.build zs ps) (ksOf (.build zs ps))
  | .load true sz x => cLoadA sz (rdOp x)
  | .load false sz x => cLoad1 (rdOp x)
  | .store sz x y => cStore sz (rdOp x) (rdOp y)
  | .nilc x => cNilc (rdOp x)
  | .bin op x y => cBin op (rdOp x) (rdOp y)
  | .isnil neg x => cIsnil neg (rdOp x)
  | .un .not x => cNot (rdOp x)
  | .faddr off x => cFaddr off (rdOp x)
  | .fld ag off sz x => cFld ag off sz (rdOp x)
  | .iaddr sz x i => cIaddr sz (rdOp x) (rdOp i)
  | .len x => cLen (rdOp x)
  | .ext i x => cExt i (rdOp x)
  | op => cGen op (ksOf op)
theorem coreOf_ok (op : SOp) (hc : ∀ f as, op ≠ .call f as) : CoreOk op (coreOf op) := by
  cases op
  case mov x => exact cMov_ok x
  case pick c a b => exact cPick_ok c a b
  case alloc zs => exact cAlloc_ok zs
  case box x => exact cBox_ok x
  case build zs ps =>
    simp only [coreOf]
    cases hb : fitsB zs.length ps with
    | true => exact cBuild_ok zs ps hb
    | false => exact cGen_ok _ rfl
  case load ag sz x =>
    cases ag with
    | true => exact cLoadA_ok sz x
    | false => exact cLoad1_ok sz x
  case store sz x y => exact cStore_ok sz x y
  case nilc x => exact cNilc_ok x
  case bin op x y => exact cBin_ok op x y
  case isnil neg x => exact cIsnil_ok neg x
  case un op x =>
    cases op with
    | not => exact cNot_ok x
    | _ => exact cGen_ok _ rfl
  case faddr off x => exact cFaddr_ok off x
  case fld ag off sz x => exact cFld_ok ag off sz x
  case iaddr sz x i => exact cIaddr_ok sz x i
  case len x => exact cLen_ok x
  case ext i x => exact cExt_ok i x
  case call f as => exact absurd rfl (hc f as)
  all_goals exact cGen_ok _ rfl
abbrev Kco := AV → Hp → List Nat → List Use → RR
def callK (kl : Bool) (run : RunO) (nm : Nat) (H : Hp) (f : FuncId) (ys : List AV) (k : Kco) : RR :=
  bif pureL ys then (match run f ys [] [] with
    | some ⟨vs, h', O, dp⟩ => bif (bif pureL vs then noLo h' else false) then k (retOne vs) [] [] O else match finG 0 (tops dp 0 vs).eraseDups vs h' with
      | some (r, _, es) => bif decide (es.length ≤ 8) && expA es.length r then k (sh nm r) (obsFrom nm es) [] O else none
      | none => none
    | none => none)
  else match callXO kl run nm H f ys with
    | some ⟨r, O⟩ => k r.val r.upd r.rd O
    | none => none
theorem callK_some {P : Program} {kl : Bool} {run : RunO} (hrun : RunOOk P run) {nm : Nat} {H : Hp} {f : FuncId} {ys : List AV} {k : Kco} {r} (h : callK kl run nm H f ys k = some r) :
    ∃ y u rd O, k y u rd O = some r ∧ (Valid P O → CallD P nm f ys H ⟨y, u, rd⟩) := by
  unfold callK at h
  cases hp : pureL ys with
  | true =>
    rw [hp] at h
    simp only [cond_true] at h
    split at h
    · rename_i vs h' O dp hr
      cases hb : (bif pureL vs then noLo h' else false) with
      | true =>
        rw [hb] at h
        refine ⟨_, _, _, _, h, fun hv => ?_⟩
        cases hpv : pureL vs with
        | false => rw [hpv] at hb; cases hb
        | true => rw [hpv] at hb; exact callP1_ok hrun hp hr hv hpv hb
      | false =>
        rw [hb] at h
        simp only [cond_false] at h
        split at h
        · rename_i r0 bs es hF
          generalize hc : (decide (es.length ≤ 8) && expA es.length r0) = q at h
          cases q with
          | false => cases h
          | true => exact ⟨_, _, _, _, h, fun hv => callP0_ok hrun hp hr hv hF hc⟩
        · cases h
    · cases h
  | false =>
    rw [hp] at h
    simp only [cond_false] at h
    split at h
    · rename_i r0 O he
      exact ⟨_, _, _, _, h, fun hv => callXO_ok hrun he hv⟩
    · cases h
def appL (xs ys : List AV) : List AV := match ys with
  | [] => xs
  | ys => xs ++ ys
theorem appL_eq (xs ys : List AV) : appL xs ys = xs ++ ys := by cases ys <;> simp [appL]
def cCallK (kl : Bool) (run : RunO) (nm : Nat) (T : Fr) (H : Hp) (f : Rd) (as : List Rd) (k : Kco) : RR := oB (f T) fun g => match g with
  | .fn g caps => rdsK as T fun xs => bif Nat.blt g 1000000 then callK kl run nm H g (appL xs caps) k else bif Nat.blt g 2000000 then callK kl run nm H (g - 1000000) (appL caps xs) k else none
  | _ => none
theorem cCallK_some {P : Program} {kl : Bool} {run : RunO} (hrun : RunOOk P run) {nm : Nat} {T : Fr} {H : Hp} {f : Operand} {as : List Operand} {k : Kco} {r} (h : cCallK kl run nm T H (rdOp f) (as.map rdOp) k = some r) :
    ∃ y u rd O, k y u rd O = some r ∧ (Valid P O → ∀ t h, View t T → HEq' h H → ∀ Q : FuncId → List AV → Prop, (∀ g xs, CallD P nm g xs h ⟨y, u, rd⟩ → Q g xs) → onF (ev t f) (evL t as) Q) := by
  obtain ⟨g, hg, h⟩ := oB_some h
  split at h
  · rename_i g caps
    obtain ⟨xs, h, hxs⟩ := rdsK_some h
    simp only [appL_eq] at h
    have mono : ∀ {g xs y u rd} {h' : Hp}, HEq' h' H → CallD P nm g xs H ⟨y, u, rd⟩ → CallD P nm g xs h' ⟨y, u, rd⟩ := fun hh hC h2 h3 Q hQ => hC h2 (fun b hb => (h3 b hb).trans (hh b)) Q hQ
    cases hb : Nat.blt g 1000000 with
    | true =>
      rw [hb] at h
      obtain ⟨y, u, rd, O, hk, hC⟩ := callK_some hrun h
      refine ⟨y, u, rd, O, hk, fun hv t h' hvw hh Q hQ => ?_⟩
      rw [rdOp_ok f T _ hg t hvw, hxs t hvw, onF_fn, if_pos (blt_lt hb)]
      exact hQ _ _ (mono hh (hC hv))
    | false =>
      rw [hb] at h
      simp only [cond_false] at h
      cases hb2 : Nat.blt g 2000000 with
      | true =>
        rw [hb2] at h
        obtain ⟨y, u, rd, O, hk, hC⟩ := callK_some hrun h
        refine ⟨y, u, rd, O, hk, fun hv t h' hvw hh Q hQ => ?_⟩
        have hge : ¬ g < 1000000 := fun hlt => by
          have : Nat.blt g 1000000 = true := Nat.ble_eq_true_of_le hlt
          rw [hb] at this; cases this
        rw [rdOp_ok f T _ hg t hvw, hxs t hvw, onF_fn, if_neg hge, if_pos (blt_lt hb2)]
        exact hQ _ _ (mono hh (hC hv))
      | false => rw [hb2] at h; cases h
  · cases h
end Go.Eng
