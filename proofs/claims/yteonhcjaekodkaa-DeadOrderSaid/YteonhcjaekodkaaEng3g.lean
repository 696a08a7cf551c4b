/-
  The engine, part 3g: one name dies, another takes its place (append).
  No condition: lemmas.
-/
import Derived.Test.YteonhcjaekodkaaEng3f
set_option linter.all false
namespace Go.Eng
open Go

structure Xfer (C : Ctx) (ρ : Nat → Loc) (U : Nat → Prop) (h : List (Nat × Ob)) (w : World) (b b' : Nat) (l : Loc) (w' : World) : Prop where
  os : w'.os = w.os
  tape : w'.tape = w.tape
  output : w'.output = w.output
  size : w.heap.size ≤ w'.heap.size
  bl : ∀ g, g < w.heap.size → (∀ o n, ρ b ≠ .at g o n) → w'.heap[g]? = w.heap[g]?
  hu : U b
  hb' : ¬ U b'
  nb : ∀ cs, get h b ≠ some (.box cs)
  way : l = .nil ∨ ∃ g o n, l = .at g o n ∧ ((w.heap.size ≤ g ∧ g < w'.heap.size) ∨ ∃ o' n', ρ b = .at g o' n')

def up2 (ρ : Nat → Loc) (b b' : Nat) (l : Loc) : Nat → Loc := up (up ρ b .dead) b' l

section
variable {C : Ctx} {ρ : Nat → Loc} {U : Nat → Prop} {h : List (Nat × Ob)} {w w' : World} {b b' : Nat} {l : Loc}

theorem Xfer.ne (hm : Xfer C ρ U h w b b' l w') : b ≠ b' := fun e => hm.hb' (e ▸ hm.hu)

theorem Xfer.later (hm : Xfer C ρ U h w b b' l w') : Later U ρ (up2 ρ b b' l) := by
  intro k hk
  unfold up2 up
  have : k ≠ b' := fun e => hm.hb' (e ▸ hk)
  rw [if_neg this]
  by_cases e : k = b
  · rw [if_pos e]; exact .inr rfl
  · rw [if_neg e]; exact .inl rfl

theorem Xfer.owned (hm : Xfer C ρ U h w b b' l w') {g : Nat} (ho : Owned (up2 ρ b b' l) g) : Owned ρ g ∨ (w.heap.size ≤ g ∧ g < w'.heap.size) := by
  obtain ⟨k, o, n, hk⟩ := ho
  unfold up2 up at hk
  by_cases e : k = b'
  · rw [if_pos e] at hk
    rcases hm.way with h | ⟨g', o', n', h, h1 | ⟨o'', n'', h1⟩⟩
    · rw [h] at hk; cases hk
    · rw [h] at hk; cases hk; exact .inr h1
    · rw [h] at hk; cases hk; exact .inl ⟨b, _, _, h1⟩
  · rw [if_neg e] at hk
    by_cases e2 : k = b
    · rw [if_pos e2] at hk; cases hk
    · rw [if_neg e2] at hk; exact .inl ⟨k, o, n, hk⟩

theorem Xfer.okc (hm : Xfer C ρ U h w b b' l w') {g : Nat} (hg : okc C ρ w g) : okc C (up2 ρ b b' l) w' g := by
  refine ⟨hg.1, Nat.lt_of_lt_of_le hg.2.1 hm.size, fun ho => ?_⟩
  rcases hm.owned ho with h | h
  · exact hg.2.2 h
  · have := hg.2.1; omega

theorem Xfer.same (hm : Xfer C ρ U h w b b' l w') {g : Nat} (hg : Go.Eng.okc C ρ w g) : w'.heap[g]? = w.heap[g]? :=
  hm.bl g hg.2.1 fun o n e => hg.2.2 ⟨b, o, n, e⟩

theorem Xfer.vr (hm : Xfer C ρ U h w b b' l w') {x : AV} {u : Value} (hx : VR w (Go.Eng.okc C ρ w) ρ U x u) : VR w' (Go.Eng.okc C (up2 ρ b b' l) w') (up2 ρ b b' l) (addU U b') x u :=
  hx.mono (fun _ => hm.okc) (fun _ => hm.same) (fun _ h => .inl h) hm.later

theorem Xfer.vp (hm : Xfer C ρ U h w b b' l w') {x : AV} {u : Value} (hx : VP w (Go.Eng.okc C ρ w) x u) : VP w' (Go.Eng.okc C (up2 ρ b b' l) w') x u :=
  hx.mono (fun _ => hm.okc) (fun _ => hm.same)

theorem Xfer.keep (hm : Xfer C ρ U h w b b' l w') {l' : Loc} {ob : Ob} (hl : ∀ g o n, l' = .at g o n → w'.heap[g]? = w.heap[g]?)
    (ho : ObR w (Go.Eng.okc C ρ w) ρ U l' ob) : ObR w' (Go.Eng.okc C (up2 ρ b b' l) w') (up2 ρ b b' l) (addU U b') l' ob := by
  cases ob with
  | box cs =>
    obtain ⟨g, o, n, e, cells, h1, h2, h3, h4, h5⟩ := ho
    refine ⟨g, o, n, e, cells, h1, (hl g o n h1).trans h2, h3, h4, fun j c hj => ?_⟩
    obtain ⟨u, hu, hv⟩ := h5 j c hj
    exact ⟨u, hu, hm.vr hv⟩
  | row e sz xs =>
    rcases ho with ho | ⟨g, o, n, cells, h1, h2, h3, h4, h5, h6⟩
    · exact .inl ho
    · refine .inr ⟨g, o, n, cells, h1, (hl g o n h1).trans h2, h3, h4, h5, fun k x j c hk hj => ?_⟩
      obtain ⟨u, hu, h1c, hv⟩ := h6 k x j c hk hj
      exact ⟨u, hu, h1c, hm.vp hv⟩
  | map es =>
    obtain ⟨g, ents, clock, h1, h2, h3, h4⟩ := ho
    exact ⟨g, ents, clock, h1, (hl g 0 0 h1).trans h2, h3, fun i k c m hi he => ⟨(h4 i k c m hi he).1, hm.vp (h4 i k c m hi he).2⟩⟩
  | dead => exact ho

theorem Xfer.hr (hm : Xfer C ρ U h w b b' l w') (hr : HR C ρ U h w) {ob : Ob}
    (ho : ObR w' (Go.Eng.okc C (up2 ρ b b' l) w') (up2 ρ b b' l) (addU U b') l ob) : HR C (up2 ρ b b' l) (addU U b') ((b', ob) :: (b, .dead) :: h) w' where
  hp k o hk := by
    by_cases e : b' = k
    · subst e
      rw [get_same] at hk
      cases hk
      refine ⟨.inr rfl, ?_⟩
      have : up2 ρ b b' l b' = l := by simp [up2, up]
      rw [this]; exact ho
    · rw [get_ne _ _ _ _ e] at hk
      by_cases e2 : b = k
      · subst e2
        rw [get_same] at hk; cases hk
        refine ⟨.inl hm.hu, ?_⟩
        show up2 ρ b b' l b = .dead
        simp [up2, up, hm.ne]
      · rw [get_ne _ _ _ _ e2] at hk
        have he : up2 ρ b b' l k = ρ k := by unfold up2 up; rw [if_neg (fun h => e h.symm), if_neg (fun h => e2 h.symm)]
        obtain ⟨h1, h2⟩ := hr.hp k o hk
        refine ⟨.inl h1, ?_⟩
        rw [he]
        refine hm.keep (fun g o n hl => ?_) h2
        have hlt := (hr.ownl g ⟨k, o, n, hl⟩).2
        exact hm.bl g hlt fun o' n' h' => e2 (hr.inj b k g o' n' o n h' hl)
  hd k hk := by
    by_cases e : b' = k
    · subst e; rw [get_same] at hk; cases hk
    · rw [get_ne _ _ _ _ e] at hk
      by_cases e2 : b = k
      · subst e2; rw [get_same] at hk; cases hk
      · rw [get_ne _ _ _ _ e2] at hk
        unfold up2 up; rw [if_neg (fun h => e h.symm), if_neg (fun h => e2 h.symm)]; exact hr.hd k hk
  inj k k' g o n o' n' h1 h2 := by
    have key : ∀ k o n, up2 ρ b b' l k = .at g o n → (k = b' ∧ ((∃ o' n', ρ b = .at g o' n') ∨ w.heap.size ≤ g)) ∨ (k ≠ b' ∧ k ≠ b ∧ ρ k = .at g o n) := by
      intro k o n hk
      unfold up2 up at hk
      by_cases e : k = b'
      · rw [if_pos e] at hk
        refine .inl ⟨e, ?_⟩
        rcases hm.way with h | ⟨g', o', n', h, h1 | ⟨o'', n'', h1⟩⟩
        · rw [h] at hk; cases hk
        · rw [h] at hk; cases hk; exact .inr h1.1
        · rw [h] at hk; cases hk; exact .inl ⟨_, _, h1⟩
      · rw [if_neg e] at hk
        by_cases e2 : k = b
        · rw [if_pos e2] at hk; cases hk
        · rw [if_neg e2] at hk; exact .inr ⟨e, e2, hk⟩
    rcases key k o n h1 with ⟨e1, a1⟩ | ⟨e1, f1, a1⟩ <;> rcases key k' o' n' h2 with ⟨e2, a2⟩ | ⟨e2, f2, a2⟩
    · rw [e1, e2]
    · rcases a1 with ⟨o'', n'', a1⟩ | a1
      · exact absurd (hr.inj _ _ _ _ _ _ _ a2 a1) f2
      · have := (hr.ownl g ⟨k', o', n', a2⟩).2; omega
    · rcases a2 with ⟨o'', n'', a2⟩ | a2
      · exact absurd (hr.inj _ _ _ _ _ _ _ a1 a2) f1
      · have := (hr.ownl g ⟨k, o, n, a1⟩).2; omega
    · exact hr.inj _ _ _ _ _ _ _ a1 a2
  os := hm.os.trans hr.os
  tape := hm.tape.trans hr.tape
  output := hm.output.trans hr.output
  size := Nat.le_trans hr.size hm.size
  old g hg he := by
    rw [← hr.old g hg he]
    refine hm.bl g (Nat.lt_of_lt_of_le hg hr.size) fun o n e => ?_
    rcases (hr.ownl g ⟨b, o, n, e⟩).1 with h | h
    · exact he h
    · omega
  okl := hr.okl
  ownl g ho := by
    rcases hm.owned ho with h | h
    · exact ⟨(hr.ownl g h).1, Nat.lt_of_lt_of_le (hr.ownl g h).2 hm.size⟩
    · exact ⟨.inr (by have := hr.size; omega), h.2⟩
  fix k l' hk := by
    obtain ⟨h1, h2, cs, h3⟩ := hr.fix k l' hk
    have e : b' ≠ k := fun e => hm.hb' (e ▸ h2)
    have e2 : b ≠ k := fun e => hm.nb cs (e ▸ h3)
    refine ⟨?_, .inl h2, cs, by rw [get_ne _ _ _ _ e, get_ne _ _ _ _ e2]; exact h3⟩
    unfold up2 up; rw [if_neg (fun h => e h.symm), if_neg (fun h => e2 h.symm)]; exact h1

theorem Run.xfer (hr : HR C ρ U h w) {ob : Ob} {x : AV} {v : Value} {r : Result Next} (hm : Xfer C ρ U h w b b' l w')
    (ho : ObR w' (Go.Eng.okc C (up2 ρ b b' l) w') (up2 ρ b b' l) (addU U b') l ob) (hrun : r = .ok (.value v) w') (hv : VR w' (Go.Eng.okc C (up2 ρ b b' l) w') (up2 ρ b b' l) (addU U b') x v) (p : Prop) :
    Run C ρ U h w b' r ⟨p, x, [(b', ob), (b, .dead)]⟩ :=
  ⟨v, w', _, _, .inl hrun, hm.hr hr ho, hv, fun _ _ h => hm.vr h, fun _ hk => hk⟩
end
end Go.Eng
