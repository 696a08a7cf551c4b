/-
  The engine, part 3b: the operations that only compute are sound.
  No condition: lemmas.
-/
import Derived.Test.YteonhcjaekodkaaEng3a
set_option linter.all false
namespace Go.Eng
open Go

/-- What the temporaries hold, told by a list. -/
def Tm (C : Ctx) (ρ : Nat → Loc) (U : Nat → Prop) (w : World) (t : List (Nat × AV)) (a : Act) : Prop :=
  ∀ k x, get t k = some x → ∃ u, a.tmps[k]? = some u ∧ VR w (okc C ρ w) ρ U x u

def Run (C : Ctx) (ρ : Nat → Loc) (U : Nat → Prop) (h : List (Nat × Ob)) (w : World) (nm : Nat) (r : Result Next) (e : E) : Prop :=
  ∃ v w' ρ' U', (r = .ok (.value v) w' ∨ (v = undef ∧ r = .ok .skip w')) ∧ HR C ρ' U' (e.upd ++ h) w' ∧ VR w' (okc C ρ' w') ρ' U' e.val v ∧
    (∀ x u, VR w (okc C ρ w) ρ U x u → VR w' (okc C ρ' w') ρ' U' x u) ∧ (∀ b, U' b → U b ∨ b = nm)

section
variable {P : Program} {C : Ctx} {ρ : Nat → Loc} {U : Nat → Prop} {h : List (Nat × Ob)} {w : World} {nm : Nat} {t : List (Nat × AV)} {a : Act}

theorem Run.same (hr : HR C ρ U h w) {x : AV} {v : Value} (hv : VR w (okc C ρ w) ρ U x v) (p : Prop) : Run C ρ U h w nm (.ok (.value v) w) ⟨p, x, []⟩ :=
  ⟨v, w, ρ, U, .inl rfl, hr, hv, fun _ _ h => h, fun _ h => .inl h⟩

theorem Run.moved (hr : HR C ρ U h w) {b : Nat} {l : Loc} {w' : World} {ob : Ob} {x : AV} {v : Value} {r : Result Next} (hm : Moved C ρ U h w b l w')
    (hb : (∃ cs, get h b = some (.box cs)) → ∃ cs, ob = .box cs) (ho : ObR w' (okc C (up ρ b l) w') (up ρ b l) (addU U b) l ob)
    (hrun : r = .ok (.value v) w' ∨ (v = undef ∧ r = .ok .skip w')) (hv : VR w' (okc C (up ρ b l) w') (up ρ b l) (addU U b) x v) (hn : U b ∨ b = nm) (p : Prop) :
    Run C ρ U h w nm r ⟨p, x, [(b, ob)]⟩ :=
  ⟨v, w', _, _, hrun, hm.hr hr hb ho, hv, fun _ _ h => hm.vr h, fun k hk => hk.elim .inl fun e => by
    subst e; exact hn⟩

theorem ev_ok (ht : Tm C ρ U w t a) {x : Operand} {y : AV} (h : ev t x = some y) : VR w (okc C ρ w) ρ U y (a.eval x) := by
  cases x with
  | tmp k =>
    obtain ⟨u, h1, h2⟩ := ht k y h
    have : a.eval (.tmp k) = u := by
      simp only [Act.eval]
      have h3 := Array.getElem?_eq_some_iff.1 h1
      obtain ⟨hlt, he⟩ := h3
      simp [Array.getD, hlt, he]
    rw [this]; exact h2
  | const v => simp only [ev, Option.some.injEq] at h; subst h; exact .p (.v v)
  | global g => simp [ev] at h
  | func f =>
    simp only [ev, Option.some.injEq] at h; subst h
    exact .fn (by simp) (by simp)

theorem evL_ok (ht : Tm C ρ U w t a) : ∀ {xs : List Operand} {ys : List AV}, evL t xs = some ys → VL w (okc C ρ w) ρ U ys (xs.map a.eval).toArray
  | [], ys, h => by simp only [evL, Option.some.injEq] at h; subst h; exact ⟨rfl, by simp⟩
  | x :: xs, ys, h => by
    simp only [evL] at h
    split at h
    · rename_i y ys' h1 h2
      simp only [Option.some.injEq] at h; subst h
      have ih := evL_ok ht h2
      refine ⟨by have := ih.1; simp at this; simp [this], fun i c u hc hu => ?_⟩
      cases i with
      | zero => simp at hc hu; subst hc; subst hu; exact ev_ok ht h1
      | succ i =>
        refine ih.2 i c u (by simpa using hc) ?_
        simpa using hu
    · cases h

theorem VP.of_pure_aux {w : World} {ok : Nat → Prop} {ρ : Nat → Loc} {U : Nat → Prop} {x : AV} {u : Value} (h : VR w ok ρ U x u) : x.pure = true → VP w ok x u := by
  have key : ∀ (cs : List AV), pureL cs = true → ∀ (i : Nat) (c : AV), cs[i]? = some c → c.pure = true := by
    intro cs
    induction cs with
    | nil => intro _ i c h; simp at h
    | cons d cs ih =>
      intro hp i c hc
      simp only [pureL, Bool.and_eq_true] at hp
      cases i with
      | zero => simp at hc; subst hc; exact hp.1
      | succ i => exact ih hp.2 i c (by simpa using hc)
  induction h with
  | p h => exact fun _ => h
  | agg hl _ ih => exact fun hp => .agg hl fun i c u hc hu => ih i c u hc hu (key _ (by simpa [AV.pure] using hp) i c hc)
  | tup hl _ ih => exact fun hp => .tup hl fun i c u hc hu => ih i c u hc hu (key _ (by simpa [AV.pure] using hp) i c hc)
  | fn hl _ ih => exact fun hp => .fn hl fun i c u hc hu => ih i c u hc hu (key _ (by simpa [AV.pure] using hp) i c hc)
  | own hu h => intro hp; simp [AV.pure] at hp
  | ptr a hu h => intro hp; simp [AV.pure] at hp
  | rp a hu h => intro hp; simp [AV.pure] at hp
  | mp a hu h => intro hp; simp [AV.pure] at hp

theorem pureL_get : ∀ (cs : List AV), pureL cs = true → ∀ (i : Nat) (c : AV), cs[i]? = some c → c.pure = true := by
  intro cs
  induction cs with
  | nil => intro _ i c h; simp at h
  | cons d cs ih =>
    intro hp i c hc
    simp only [pureL, Bool.and_eq_true] at hp
    cases i with
    | zero => simp at hc; subst hc; exact hp.1
    | succ i => exact ih hp.2 i c (by simpa using hc)

theorem oneL_get : ∀ (cs : List AV), oneL cs = true → ∀ (i : Nat) (c : AV), cs[i]? = some c → c.one = true := by
  intro cs
  induction cs with
  | nil => intro _ i c h; simp at h
  | cons d cs ih =>
    intro hp i c hc
    simp only [oneL, Bool.and_eq_true] at hp
    cases i with
    | zero => simp at hc; subst hc; exact hp.1
    | succ i => exact ih hp.2 i c (by simpa using hc)

theorem VR.one {x : AV} {u : Value} {ok : Nat → Prop} (h : VR w ok ρ U x u) (h1 : x.one = true) : u.oneCell' = true := by
  cases h with
  | p h =>
    cases h <;> first | rfl | (simp [AV.one] at h1; done) | (simpa [AV.one] using h1)
  | agg => simp [AV.one] at h1
  | tup => simp [AV.one] at h1
  | fn => rfl
  | own hu h => obtain ⟨⟨a, n, c, e⟩, _⟩ := h; rw [e]; rfl
  | ptr => rfl
  | rp => rfl
  | mp => rfl

/-- The cells of a value, told cell by cell. -/
theorem cellsA_ok {ok : Nat → Prop} {x : AV} {u : Value} {cs : List AV} (h : VR w ok ρ U x u) (hc : cellsA x = some cs) :
    VL w ok ρ U cs u.cells ∧ (∀ (i : Nat) (v : Value), u.cells[i]? = some v → v.oneCell' = true) ∧ oneL cs = true := by
  by_cases hx : ∃ l, x = .agg l
  · obtain ⟨l, rfl⟩ := hx
    simp only [cellsA] at hc
    split at hc
    · rename_i h1
      simp only [Option.some.injEq] at hc; subst hc
      obtain ⟨vs, rfl, hv⟩ := h.agg_inv
      refine ⟨hv, fun i v hi => ?_, h1⟩
      simp only [Value.cells] at hi
      have hlt : i < l.length := by rw [hv.1]; exact (Array.getElem?_eq_some_iff.1 hi).1
      exact (hv.2 i _ v (List.getElem?_eq_getElem hlt) hi).one (oneL_get _ h1 i _ (List.getElem?_eq_getElem hlt))
    · cases hc
  · have hc' : (if x.one = true then some [x] else none) = some cs := by
      cases x <;> first | (exact absurd ⟨_, rfl⟩ hx) | exact hc
    split at hc'
    · rename_i h1
      simp only [Option.some.injEq] at hc'; subst hc'
      have h2 := h.one h1
      have h3 : u.cells = #[u] := by cases u <;> first | rfl | (simp [Value.oneCell'] at h2)
      rw [h3]
      refine ⟨⟨rfl, fun i c v hi hv => ?_⟩, fun i v hi => ?_, by simp [oneL, h1]⟩
      · cases i with
        | zero => simp at hi hv; subst hi; subst hv; exact h
        | succ i => simp at hi
      · cases i with
        | zero => simp at hi; subst hi; exact h2
        | succ i => simp at hi
    · cases hc'
end
end Go.Eng
