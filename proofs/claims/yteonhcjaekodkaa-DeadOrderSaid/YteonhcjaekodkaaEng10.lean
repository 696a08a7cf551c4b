/-
  The engine, part 10: code is sound.
  No condition: lemmas.
-/
import Derived.Test.YteonhcjaekodkaaEng9
set_option linter.all false
namespace Go.Eng
open Go

theorem least {p : Nat → Prop} (h : ∃ n, p n) : ∃ n, p n ∧ ∀ m, p m → n ≤ m := by
  apply Classical.byContradiction
  intro hno
  have : ∀ n, ¬ p n := fun n => by
    induction n using Nat.strongRecOn with
    | _ n ih =>
      intro hp
      refine hno ⟨n, hp, fun m hm => ?_⟩
      rcases Nat.lt_or_ge m n with h1 | h1
      · exact absurd hm (ih m h1)
      · exact h1
  obtain ⟨n, hn⟩ := h
  exact this n hn

section
variable {P : Program} {C : Ctx}

/-- A state of the walk, at an activation and a world. -/
def At (C : Ctx) (s : St) (a : Act) (w : World) : Prop := ∃ ρ U, Sim C ρ U s.t s.h a w ∧ ∀ b, U b → b < s.n

theorem Wk.at {s s' : St} (h : Wk s s') {a : Act} {w : World} (hs : At C s a w) : At C s' a w := by
  obtain ⟨ρ, U, hS, hU⟩ := hs
  obtain ⟨ρ', U', hR, hU'⟩ := h C ρ U a w ⟨hS.hr, hS.defers, hS.sz, hS.tm⟩ hU
  exact ⟨ρ', U', ⟨hR.hr, hR.tm, hR.defers, hR.sz⟩, hU'⟩

/-- The least measure of the family's states at an activation and a world. -/
noncomputable def leastAt {α : Type} (C : Ctx) (S : α → St) (μ : α → Nat) (a : Act) (w : World) : Nat := by
  classical
  exact if h : ∃ n, ∃ x, μ x = n ∧ At C (S x) a w then Classical.choose (least h) else 0

theorem leastAt_spec {α : Type} {S : α → St} {μ : α → Nat} {a : Act} {w : World} {x : α} (h : At C (S x) a w) :
    leastAt C S μ a w ≤ μ x ∧ ∃ y, μ y = leastAt C S μ a w ∧ At C (S y) a w := by
  have hx : ∃ n, ∃ x, μ x = n ∧ At C (S x) a w := ⟨_, x, rfl, h⟩
  have e : leastAt C S μ a w = Classical.choose (least hx) := by
    unfold leastAt
    rw [dif_pos hx]
  obtain ⟨h1, h2⟩ := Classical.choose_spec (least hx)
  rw [e]
  exact ⟨h2 _ ⟨x, rfl, h⟩, h1⟩

theorem wpc_sound (hm : P.follows .mixedOrders = true) (c : Code) : ∀ (sc : SCode), stripCode P c = some sc → okCode C.nt sc = true →
    ∀ (Q : Exit → St → Prop) (K : Exit → Act → World → Prop) (s : St) (a : Act) (w : World), At C s a w → wpc P sc Q s →
      (∀ e s' a' w', At C s' a' w' → Q e s' → K e a' w') → c.wp P K a w := by
  induction c with
  | skip =>
    intro sc hs _ Q K s a w hA hw hK
    cases hs
    exact wp_skip (hK _ _ _ _ hA hw)
  | region id ops draw =>
    intro sc hs hok Q K s a w hA hw hK
    simp only [stripCode] at hs
    split at hs
    · rename_i l hl
      cases hs
      simp only [okCode] at hok
      obtain ⟨ρ, U, hS, hU⟩ := hA
      simp only [wpc] at hw
      cases draw with
      | true =>
        simp only [if_true] at hw
        exact wpDraw_sound hm hl hok hS hU hw fun t h a' w' ρ' U' hS' hU' hQ => hK _ ⟨_, t, h⟩ a' w' ⟨ρ', U', hS', hU'⟩ hQ
      | false =>
        simp only [Bool.false_eq_true, if_false] at hw
        exact wp_region_list (wpOps_sound ops.toList l s.n s.t s.h a w ρ U hl hok hS hU hw fun t h a' w' ρ' U' hS' hU' hQ => hK _ ⟨_, t, h⟩ a' w' ⟨ρ', U', hS', hU'⟩ hQ)
    · cases hs
  | seq x y ihx ihy =>
    intro sc hs hok Q K s a w hA hw hK
    simp only [stripCode] at hs
    split at hs
    · rename_i x' hx
      split at hs
      · rename_i y' hy
        cases hs
        simp only [okCode, Bool.and_eq_true] at hok
        refine wp_seq (ihx x' hx hok.1 _ _ s a w hA hw fun e s' a' w' hA' hQ => ?_)
        cases e with
        | normal => exact ihy y' hy hok.2 Q K s' a' w' hA' hQ hK
        | exit i => exact hK _ _ _ _ hA' hQ
        | goto l => exact hK _ _ _ _ hA' hQ
        | ret => exact hK _ _ _ _ hA' hQ
        | panic ch => exact hK _ _ _ _ hA' hQ
        | outgrown => exact hK _ _ _ _ hA' hQ
      · cases hs
    · cases hs
  | cond c x y ihx ihy =>
    intro sc hs hok Q K s a w hA hw hK
    simp only [stripCode] at hs
    split at hs
    · rename_i x' hx
      split at hs
      · rename_i y' hy
        cases hs
        simp only [okCode, Bool.and_eq_true] at hok
        simp only [wpc] at hw
        unfold onG at hw
        split at hw
        · rename_i b hb
          have hA0 := hA
          obtain ⟨ρ, U, hS, hU⟩ := hA
          have hc := (ev_ok hS.tm hb).v_inv
          exact wp_cond_split hc (fun hb => ihx x' hx hok.1 Q K s a w hA0 (hw.1 hb) hK) (fun hb => ihy y' hy hok.2 Q K s a w hA0 (hw.2 hb) hK)
        · exact hw.elim
        · exact hw.elim
      · cases hs
    · cases hs
  | block id c ih =>
    intro sc hs hok Q K s a w hA hw hK
    simp only [stripCode] at hs
    split at hs
    · rename_i c' hc
      cases hs
      simp only [okCode] at hok
      refine wp_block (ih c' hc hok _ _ s a w hA hw fun e s' a' w' hA' hQ => ?_)
      cases e with
      | exit i =>
        simp only [blockK] at hQ
        simp only [Exit.inBlock]
        split
        · rename_i h; rw [if_pos h] at hQ; exact hK _ _ _ _ hA' hQ
        · rename_i h; rw [if_neg h] at hQ; exact hK _ _ _ _ hA' hQ
      | normal => exact hK _ _ _ _ hA' hQ
      | goto l => exact hK _ _ _ _ hA' hQ
      | ret => exact hK _ _ _ _ hA' hQ
      | panic ch => exact hK _ _ _ _ hA' hQ
      | outgrown => exact hK _ _ _ _ hA' hQ
    · cases hs
  | loop c ih =>
    intro sc hs hok Q K s a w hA hw hK
    simp only [stripCode] at hs
    split at hs
    · rename_i c' hc
      cases hs
      simp only [okCode] at hok
      obtain ⟨α, S, μ, a0, hW, hb⟩ := hw
      refine wp_loop (fun a w => ∃ x, At C (S x) a w) (leastAt C S μ) ⟨a0, hW.at hA⟩ fun a w hI => ?_
      obtain ⟨x0, hx0⟩ := hI
      obtain ⟨_, x, hx, hA'⟩ := leastAt_spec (μ := μ) hx0
      refine ih c' hc hok _ _ (S x) a w hA' (hb x) fun e s' a' w' hA'' hQ => ?_
      cases e with
      | normal =>
        obtain ⟨x', hlt, hW'⟩ := hQ
        have h1 := hW'.at hA''
        refine ⟨⟨x', h1⟩, ?_⟩
        have := (leastAt_spec (μ := μ) h1).1
        omega
      | exit i => exact hK _ _ _ _ hA'' hQ
      | goto l => exact hK _ _ _ _ hA'' hQ
      | ret => exact hK _ _ _ _ hA'' hQ
      | panic ch => exact hK _ _ _ _ hA'' hQ
      | outgrown => exact hK _ _ _ _ hA'' hQ
    · cases hs
  | exit id =>
    intro sc hs _ Q K s a w hA hw hK
    cases hs
    exact wp_exit (hK _ _ _ _ hA hw)
  | ret =>
    intro sc hs _ Q K s a w hA hw hK
    cases hs
    exact wp_ret (hK _ _ _ _ hA hw)
  | _ => intro sc hs; simp [stripCode] at hs
end
end Go.Eng
