/-
  Freezing rows at a call: a row that the caller hands over is read only from then on, and the caller's own name for it is dead.
-/
import Derived.Test.YteonhcjaekodkaaEng17
set_option linter.all false
namespace Go.Eng
open Go

/-- The names that stay. -/
def stay (h : List (Nat × Ob)) (Z : List Nat) : List (Nat × Nat) := ((h.map Prod.fst).filter fun k => !Z.contains k).map fun k => (k, k)
def kills (Z : List Nat) : List (Nat × Ob) := Z.map fun k => (k, Ob.dead)

theorem get_stay (h : List (Nat × Ob)) (Z : List Nat) (k : Nat) : get (stay h Z) k = if k ∈ h.map Prod.fst ∧ k ∉ Z then some k else none := by
  unfold stay
  induction h with
  | nil => simp [get]
  | cons p h ih =>
    obtain ⟨j, o⟩ := p
    simp only [List.map_cons]
    by_cases hj : j ∈ Z
    · rw [List.filter_cons_of_neg (by simp [hj]), ih]
      by_cases e : j = k
      · subst e; simp [hj]
      · simp only [List.mem_cons, show ¬ k = j from fun h => e h.symm, false_or]
    · rw [List.filter_cons_of_pos (by simp [hj]), List.map_cons]
      by_cases e : j = k
      · subst e; simp [get, hj]
      · rw [get_ne _ _ _ _ e, ih]
        simp only [List.mem_cons, show ¬ k = j from fun h => e h.symm, false_or]

section
variable {C : Ctx} {ρ : Nat → Loc} {U : Nat → Prop} {h : List (Nat × Ob)} {w : World}

def killLoc (ρ : Nat → Loc) (Z : List Nat) (k : Nat) : Loc := if k ∈ Z then .dead else ρ k

theorem HR.kills (hr : HR C ρ U h w) : ∀ (Z : List Nat), (∀ b ∈ Z, ∃ e sz xs, get h b = some (.row e sz xs)) → ∃ U', (∀ k, U' k → U k) ∧ (∀ k, U k → U' k) ∧ HR C (killLoc ρ Z) U' (kills Z ++ h) w
  | [], _ => ⟨U, fun _ h => h, fun _ h => h, by
      have : killLoc ρ [] = ρ := by funext k; simp [killLoc]
      rw [this]; exact hr⟩
  | b :: Z, hz => by
    obtain ⟨U', h1, h2, h3⟩ := HR.kills hr Z fun b hb => hz b (List.mem_cons_of_mem _ hb)
    obtain ⟨e, sz, xs, hb⟩ := hz b (List.mem_cons_self ..)
    have hub : U b := (hr.hp b _ hb).1
    have hnb : ∀ cs, get (Go.Eng.kills Z ++ h) b ≠ some (.box cs) := by
      intro cs hg
      rw [get_append] at hg
      cases hk : get (Go.Eng.kills Z) b with
      | none => rw [hk] at hg; simp only at hg; rw [hb] at hg; cases hg
      | some o =>
        rw [hk] at hg
        simp only [Option.some.injEq] at hg
        subst hg
        have := get_mem hk
        simp [Go.Eng.kills] at this
    have hm : Moved C (killLoc ρ Z) U' (Go.Eng.kills Z ++ h) w b .dead w := ⟨rfl, rfl, rfl, Nat.le_refl _, fun _ _ _ => rfl, .inr (.inl ⟨h2 _ hub, rfl, hnb⟩)⟩
    have := hm.hr h3 (ob := .dead) (fun ⟨cs, hc⟩ => (hnb cs hc).elim) rfl
    refine ⟨addU U' b, fun k hk => ?_, fun k hk => .inl (h2 k hk), ?_⟩
    · rcases hk with hk | rfl
      · exact h1 k hk
      · exact hub
    · have e : killLoc ρ (b :: Z) = up (killLoc ρ Z) b .dead := by
        funext k
        simp only [killLoc, up, List.mem_cons]
        by_cases e : k = b
        · simp [e]
        · simp [e]
      rw [e]; exact this

theorem wpCall_fz {P : Program} {nm : Nat} {f : FuncId} {args args' : List AV} {Q : AV → List (Nat × Ob) → Prop} (Z : List Nat)
    (hz : ∀ b ∈ Z, ∃ e sz xs, get h b = some (.row e sz xs)) (ha : rvL h (stay h Z) [] args' args) (hk : wpCall P nm f args' (kills Z ++ h) Q) : wpCall P nm f args h Q := by
  refine ⟨hk.1, fun C ρ U w vals hr hU hv => ?_⟩
  obtain ⟨U', hU1, hU2, hr'⟩ := hr.kills Z hz
  have hloc : newLoc ρ (stay h Z) [] = killLoc ρ Z := by
    funext k
    simp only [newLoc, get_stay, killLoc]
    by_cases hkz : k ∈ Z
    · simp [hkz]
    · by_cases hkh : k ∈ h.map Prod.fst
      · rw [if_pos ⟨hkh, hkz⟩, if_neg hkz]
      · rw [if_neg (fun h => hkh h.1), if_neg hkz]
        have : get h k = none := by
          cases hg : get h k with
          | none => rfl
          | some o => exact absurd (List.mem_map.2 ⟨_, get_mem hg, rfl⟩) hkh
        rw [hr.hd k this]; simp
  have hnu : ∀ k, newU (stay h Z) [] k → U' k := by
    intro k hk
    rcases hk with hk | hk
    · obtain ⟨c, hc⟩ := get_keys hk
      rw [get_stay] at hc
      split at hc
      · rename_i h1
        obtain ⟨o, ho⟩ := get_keys h1.1
        exact hU2 k (hr.hp k o ho).1
      · cases hc
    · simp at hk
  have hlater : Later U ρ (killLoc ρ Z) := fun b _ => by
    unfold killLoc
    by_cases e : b ∈ Z
    · rw [if_pos e]; exact .inr rfl
    · rw [if_neg e]; exact .inl rfl
  have hokc : ∀ g, okc C ρ w g → okc C (killLoc ρ Z) w g := fun g hg => ⟨hg.1, hg.2.1, fun ⟨b, o, n, hb⟩ => by
    unfold killLoc at hb
    split at hb
    · cases hb
    · exact hg.2.2 ⟨b, o, n, hb⟩⟩
  have hl := rvL_len _ _ ha
  have hv' : VL w (okc C (killLoc ρ Z) w) (killLoc ρ Z) U' args' vals := by
    refine ⟨by rw [hl]; exact hv.1, fun i x u hi hu => ?_⟩
    obtain ⟨y, hy, hxy⟩ := rvL_get _ _ ha i x hi
    have := rv_vr hr (hv.2 i y u hy hu) x hxy
    rw [hloc] at this
    exact this.mono (fun _ h => h) (fun _ _ => rfl) hnu (fun _ _ => .inl rfl)
  refine (hk.2 C (killLoc ρ Z) U' w vals hr' (fun b hb => hU b (hU1 b hb)) hv').mono fun e w' hpost => ?_
  obtain ⟨v, r, h', ρ', U'', rfl, h1, h2, h3, h4, h5⟩ := hpost
  exact ⟨v, r, h', ρ', U'', rfl, h1, h2, fun x u hx => h3 x u (hx.mono hokc (fun _ _ => rfl) hU2 hlater), fun b hb => (h4 b hb).imp (hU1 b) id, h5⟩

theorem goCall_fz {P : Program} {nm n n' : Nat} {f : FuncId} {args : List AV} {d : Option Nat} {l : List SOper} {k : List It} {Q : Exit → St → Prop} {t : List (Nat × AV)} (Z : List Nat) (args' : List AV)
    (hz : ∀ b ∈ Z, ∃ e sz xs, get h b = some (.row e sz xs)) (ha : rvL h (stay h Z) [] args' args) (hk : goCall P nm f args' d n' l k Q n t (kills Z ++ h)) : goCall P nm f args d n' l k Q n t h :=
  wpCall_fz Z hz ha hk
end
end Go.Eng
