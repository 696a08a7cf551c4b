/-
  The engine, joined part D: an abstract interpreter over the kit's calls, and its soundness.
  No condition beyond those that each theorem states.
-/
import Derived.Test.YtfcecgfjjamlcaaGreatEngC
set_option linter.all false
namespace Go.Eng
open Go
theorem least {p : Nat → Prop} (h : ∃ n, p n) : ∃ n, p n ∧ ∀ m, p m → n ≤ m := by
  apply Classical.byContradiction
  intro hno
  have : ∀ n, ¬ p n := fun n => by
    induction n using Nat.strongRecOn with
    | _ n ih =>
      intro hp
      refine hno ⟨n, hp, fun m hm => ?_⟩
      rcases Nat.lt_or_ge m n with h1 | h1
      · exact absurd hm (ih m h1)
      · exact h1
  obtain ⟨n, hn⟩ := h
  exact this n hn
section
variable {P : Program} {C : Ctx}
def At (C : Ctx) (s : St) (a : Act) (w : World) : Prop := ∃ ρ U, Sim C ρ U s.t s.h a w ∧ ∀ b, U b → b < s.n
theorem Wk.at {s s' : St} (h : Wk s s') {a : Act} {w : World} (hs : At C s a w) : At C s' a w := by
  obtain ⟨ρ, U, hS, hU⟩ := hs
  obtain ⟨ρ', U', hR, hU'⟩ := h C ρ U a w ⟨hS.hr, hS.defers, hS.sz, hS.tm⟩ hU
  exact ⟨ρ', U', ⟨hR.hr, hR.tm, hR.defers, hR.sz⟩, hU'⟩
noncomputable def leastAt {α : Type} (C : Ctx) (S : α → St) (μ : α → Nat) (a : Act) (w : World) : Nat := by
  classical
  exact if h : ∃ n, ∃ x, μ x = n ∧ At C (S x) a w then Classical.choose (least h) else 0
theorem leastAt_spec {α : Type} {S : α → St} {μ : α → Nat} {a : Act} {w : World} {x : α} (h : At C (S x) a w) :
    leastAt C S μ a w ≤ μ x ∧ ∃ y, μ y = leastAt C S μ a w ∧ At C (S y) a w := by
  have hx : ∃ n, ∃ x, μ x = n ∧ At C (S x) a w := ⟨_, x, rfl, h⟩
  have e : leastAt C S μ a w = Classical.choose (least hx) := by
    unfold leastAt
    rw [dif_pos hx]
  obtain ⟨h1, h2⟩ := Classical.choose_spec (least hx)
  rw [e]
  exact ⟨h2 _ ⟨x, rfl, h⟩, h1⟩
theorem wpc_sound (hm : P.follows .mixedOrders = true) (c : Code) : ∀ (sc : SCode), stripCode P c = some sc → okCode C.nt sc = true →
    ∀ (Q : Exit → St → Prop) (K : Exit → Act → World → Prop) (s : St) (a : Act) (w : World), At C s a w → wpc P sc Q s →
      (∀ e s' a' w', At C s' a' w' → Q e s' → K e a' w') → c.wp P K a w := by
  induction c with
  | skip =>
    intro sc hs _ Q K s a w hA hw hK
    cases hs
    exact wp_skip (hK _ _ _ _ hA hw)
  | region id ops draw =>
    intro sc hs hok Q K s a w hA hw hK
    simp only [stripCode] at hs
    split at hs
    · rename_i l hl
      cases hs
      simp only [okCode] at hok
      obtain ⟨ρ, U, hS, hU⟩ := hA
      simp only [wpc] at hw
      cases draw with
      | true =>
        simp only [if_true] at hw
        exact wpDraw_sound hm hl hok hS hU hw fun t h a' w' ρ' U' hS' hU' hQ => hK _ ⟨_, t, h⟩ a' w' ⟨ρ', U', hS', hU'⟩ hQ
      | false =>
        simp only [Bool.false_eq_true, if_false] at hw
        exact wp_region_list (wpOps_sound ops.toList l s.n s.t s.h a w ρ U hl hok hS hU hw fun t h a' w' ρ' U' hS' hU' hQ => hK _ ⟨_, t, h⟩ a' w' ⟨ρ', U', hS', hU'⟩ hQ)
    · cases hs
  | seq x y ihx ihy =>
    intro sc hs hok Q K s a w hA hw hK
    simp only [stripCode] at hs
    split at hs
    · rename_i x' hx
      split at hs
      · rename_i y' hy
        cases hs
        simp only [okCode, Bool.and_eq_true] at hok
        refine wp_seq (ihx x' hx hok.1 _ _ s a w hA hw fun e s' a' w' hA' hQ => ?_)
        cases e with
        | normal => exact ihy y' hy hok.2 Q K s' a' w' hA' hQ hK
        | exit i => exact hK _ _ _ _ hA' hQ
        | goto l => exact hK _ _ _ _ hA' hQ
        | ret => exact hK _ _ _ _ hA' hQ
        | panic ch => exact hK _ _ _ _ hA' hQ
        | outgrown => exact hK _ _ _ _ hA' hQ
      · cases hs
    · cases hs
  | cond c x y ihx ihy =>
    intro sc hs hok Q K s a w hA hw hK
    simp only [stripCode] at hs
    split at hs
    · rename_i x' hx
      split at hs
      · rename_i y' hy
        cases hs
        simp only [okCode, Bool.and_eq_true] at hok
        simp only [wpc] at hw
        unfold onG at hw
        split at hw
        · rename_i b hb
          have hA0 := hA
          obtain ⟨ρ, U, hS, hU⟩ := hA
          have hc := (ev_ok hS.tm hb).v_inv
          exact wp_cond_split hc (fun hb => ihx x' hx hok.1 Q K s a w hA0 (hw.1 hb) hK) (fun hb => ihy y' hy hok.2 Q K s a w hA0 (hw.2 hb) hK)
        · exact hw.elim
        · exact hw.elim
      · cases hs
    · cases hs
  | block id c ih =>
    intro sc hs hok Q K s a w hA hw hK
    simp only [stripCode] at hs
    split at hs
    · rename_i c' hc
      cases hs
      simp only [okCode] at hok
      refine wp_block (ih c' hc hok _ _ s a w hA hw fun e s' a' w' hA' hQ => ?_)
      cases e with
      | exit i =>
        simp only [blockK] at hQ
        simp only [Exit.inBlock]
        split
        · rename_i h; rw [if_pos h] at hQ; exact hK _ _ _ _ hA' hQ
        · rename_i h; rw [if_neg h] at hQ; exact hK _ _ _ _ hA' hQ
      | normal => exact hK _ _ _ _ hA' hQ
      | goto l => exact hK _ _ _ _ hA' hQ
      | ret => exact hK _ _ _ _ hA' hQ
      | panic ch => exact hK _ _ _ _ hA' hQ
      | outgrown => exact hK _ _ _ _ hA' hQ
    · cases hs
  | loop c ih =>
    intro sc hs hok Q K s a w hA hw hK
    simp only [stripCode] at hs
    split at hs
    · rename_i c' hc
      cases hs
      simp only [okCode] at hok
      obtain ⟨α, S, μ, a0, hW, hb⟩ := hw
      refine wp_loop (fun a w => ∃ x, At C (S x) a w) (leastAt C S μ) ⟨a0, hW.at hA⟩ fun a w hI => ?_
      obtain ⟨x0, hx0⟩ := hI
      obtain ⟨_, x, hx, hA'⟩ := leastAt_spec (μ := μ) hx0
      refine ih c' hc hok _ _ (S x) a w hA' (hb x) fun e s' a' w' hA'' hQ => ?_
      cases e with
      | normal =>
        obtain ⟨x', hlt, hW'⟩ := hQ
        have h1 := hW'.at hA''
        refine ⟨⟨x', h1⟩, ?_⟩
        have := (leastAt_spec (μ := μ) h1).1
        omega
      | exit i => exact hK _ _ _ _ hA'' hQ
      | goto l => exact hK _ _ _ _ hA'' hQ
      | ret => exact hK _ _ _ _ hA'' hQ
      | panic ch => exact hK _ _ _ _ hA'' hQ
      | outgrown => exact hK _ _ _ _ hA'' hQ
    · cases hs
  | exit id =>
    intro sc hs _ Q K s a w hA hw hK
    cases hs
    exact wp_exit (hK _ _ _ _ hA hw)
  | ret =>
    intro sc hs _ Q K s a w hA hw hK
    cases hs
    exact wp_ret (hK _ _ _ _ hA hw)
  | _ => intro sc hs; simp [stripCode] at hs
end
end Go.Eng

namespace Go.Eng
open Go
section
variable (h : List (Nat × Ob)) (S : List (Nat × Nat)) (N : List Nat)
mutual
def rv : AV → AV → Prop
  | .own k sz off len, y => match y with
    | .own b sz' off' len' => get S k = some b ∧ sz = sz' ∧ off = off' ∧ len = len'
    | .v (.slice none 0 0) => k ∈ N ∧ get S k = none ∧ len = 0
    | _ => False
  | .ptr k j, y => match y with
    | .ptr b j' => get S k = some b ∧ j = j'
    | _ => False
  | .rp k sz i j, y => match y with
    | .rp b sz' i' j' => get S k = some b ∧ sz = sz' ∧ i = i' ∧ j = j'
    | _ => False
  | .mp k, y => match y with
    | .mp b => get S k = some b
    | _ => False
  | .sl sz ys, y => match y with
    | .sl sz' xs => sz = sz' ∧ ys = xs
    | .v (.slice none 0 0) => ys = []
    | .own b sz' off len => b ∉ S.map Prod.snd ∧ sz = sz' ∧ match get h b with
      | some (.row _ sz'' xs) => sz = sz'' ∧ off + len ≤ xs.length ∧ ys = (xs.drop off).take len
      | _ => False
    | _ => False
  | .pel cs j, y => match y with
    | .pel cs' j' => cs = cs' ∧ j = j'
    | .rp b sz' i j' => b ∉ S.map Prod.snd ∧ j = j' ∧ match get h b with
      | some (.row _ sz'' xs) => sz' = sz'' ∧ i < xs.length ∧ cs = nth xs i
      | _ => False
    | _ => False
  | .agg ys, y => match y with
    | .agg xs => rvL ys xs
    | _ => False
  | .tup ys, y => match y with
    | .tup xs => rvL ys xs
    | _ => False
  | .fn f ys, y => match y with
    | .fn g xs => f = g ∧ rvL ys xs
    | _ => False
  | .v a, y => y = .v a
def rvL : List AV → List AV → Prop
  | [], [] => True
  | y :: ys, x :: xs => rv y x ∧ rvL ys xs
  | _, _ => False
end
def rvM : List (Value × AV) → List (Value × AV) → Prop
  | [], [] => True
  | (k, y) :: l, (k', x) :: l' => k = k' ∧ rv h S N y x ∧ rvM l l'
  | _, _ => False
def rvO : Ob → Ob → Prop
  | .box ys, .box xs => rvL h S N ys xs
  | .row e sz ys, .row e' sz' xs => e = e' ∧ sz = sz' ∧ ys = xs
  | .map ys, .map xs => rvM h S N ys xs
  | _, _ => False
def rvH (h' : List (Nat × Ob)) : List (Nat × Nat) → Prop
  | [] => True
  | (k, b) :: l => (match get h' k, get h b with
    | some y, some x => rvO h S N y x
    | _, _ => False) ∧ rvH h' l
def rvN (h' : List (Nat × Ob)) : List Nat → Prop
  | [] => True
  | k :: l => (match get h' k with
    | some (.row _ _ xs) => xs = []
    | _ => False) ∧ rvN h' l
def rvT (t : List (Nat × AV)) : List (Nat × AV) → Prop
  | [] => True
  | (k, y) :: l => (match get t k with
    | some x => rv h S N y x
    | none => False) ∧ rvT t l
def keep1 (b : Nat) : Bool := match get h b with
  | some (.box _) => get S b == some b
  | _ => true
def okS (h' : List (Nat × Ob)) : Bool :=
  decide ((S.map Prod.snd).Nodup) && (N.all (fun k => !(S.map Prod.fst).contains k) && ((h'.map Prod.fst).all (fun k => (S.map Prod.fst).contains k || N.contains k) &&
    (keep1 h S 0 && (keep1 h S 1 && (keep1 h S 2 && keep1 h S 3)))))
end
theorem get_mem {α : Type} {l : List (Nat × α)} {k : Nat} {x : α} (h : get l k = some x) : (k, x) ∈ l := by
  induction l with
  | nil => simp [get] at h
  | cons p l ih =>
    obtain ⟨a, b⟩ := p
    simp only [get] at h
    split at h
    · rename_i e; cases h; subst e; exact List.mem_cons_self ..
    · exact List.mem_cons_of_mem _ (ih h)
theorem get_keys {α : Type} {l : List (Nat × α)} {k : Nat} (h : k ∈ l.map Prod.fst) : ∃ x, get l k = some x := by
  induction l with
  | nil => simp at h
  | cons p l ih =>
    obtain ⟨a, b⟩ := p
    simp only [List.map_cons, List.mem_cons] at h
    simp only [get]
    by_cases e : a = k
    · exact ⟨b, by rw [if_pos e]⟩
    · rw [if_neg e]; exact ih (h.resolve_left fun h => e h.symm)
section
variable {C : Ctx} {ρ : Nat → Loc} {U : Nat → Prop} {h h' : List (Nat × Ob)} {S : List (Nat × Nat)} {N : List Nat} {w : World}
def newLoc (ρ : Nat → Loc) (S : List (Nat × Nat)) (N : List Nat) (k : Nat) : Loc := match get S k with
  | some b => ρ b
  | none => if k ∈ N then .nil else .dead
def newU (S : List (Nat × Nat)) (N : List Nat) (k : Nat) : Prop := k ∈ S.map Prod.fst ∨ k ∈ N
theorem newU_of {k b : Nat} (h : get S k = some b) : newU S N k := .inl (List.mem_map.2 ⟨_, get_mem h, rfl⟩)
theorem newLoc_of {k b : Nat} (h : get S k = some b) : newLoc ρ S N k = ρ b := by simp [newLoc, h]
theorem newOwned {g : Nat} (ho : Owned (newLoc ρ S N) g) : Owned ρ g ∧ ∃ k b o n, get S k = some b ∧ ρ b = .at g o n := by
  obtain ⟨k, o, n, hk⟩ := ho
  unfold newLoc at hk
  split at hk
  · rename_i b hb
    exact ⟨⟨b, o, n, hk⟩, k, b, o, n, hb, hk⟩
  · split at hk <;> cases hk
theorem newOk {g : Nat} (hg : okc C ρ w g) : okc C (newLoc ρ S N) w g := ⟨hg.1, hg.2.1, fun ho => hg.2.2 (newOwned ho).1⟩
theorem rvL_len : ∀ (ys xs : List AV), rvL h S N ys xs → ys.length = xs.length
  | [], [], _ => rfl
  | _ :: ys, _ :: xs, h => by simp only [rvL] at h; simp [rvL_len ys xs h.2]
  | [], _ :: _, h => by simp [rvL] at h
  | _ :: _, [], h => by simp [rvL] at h
theorem rvL_get : ∀ (ys xs : List AV), rvL h S N ys xs → ∀ (i : Nat) (y : AV), ys[i]? = some y → ∃ x, xs[i]? = some x ∧ rv h S N y x
  | [], [], _, i, y, hy => by simp at hy
  | y :: ys, x :: xs, h, 0, z, hz => by
    simp only [rvL] at h
    simp at hz; subst hz
    exact ⟨x, rfl, h.1⟩
  | y :: ys, x :: xs, h, i + 1, z, hz => by
    simp only [rvL] at h
    simpa using rvL_get ys xs h.2 i z (by simpa using hz)
  | [], _ :: _, h, _, _, _ => by simp [rvL] at h
  | _ :: _, [], h, _, _, _ => by simp [rvL] at h
theorem VP.new {x : AV} {u : Value} (hv : VP w (okc C ρ w) x u) : VP w (okc C (newLoc ρ S N) w) x u := hv.mono (fun _ => newOk) (fun _ _ => rfl)
theorem okc_of_dropped (hr : HR C ρ U h w) {b g o n : Nat} {e : TypeId} {sz : Nat} {xs : List (List AV)} (hb : get h b = some (.row e sz xs)) (hl : ρ b = .at g o n) (hS : b ∉ S.map Prod.snd) :
    okc C (newLoc ρ S N) w g := by
  obtain ⟨h1, h2⟩ := hr.ownl g ⟨b, o, n, hl⟩
  refine ⟨?_, h2, fun ho => ?_⟩
  · rcases h1 with h1 | h1
    · obtain ⟨b', o', n', hb'⟩ := C.extl g h1
      obtain ⟨h3, _, cs, h4⟩ := hr.fix b' _ hb'
      have := hr.inj b b' g o n o' n' hl h3
      subst this
      rw [hb] at h4; cases h4
    · exact .inr h1
  · obtain ⟨_, k, b', o', n', hk, hb'⟩ := newOwned ho
    have := hr.inj b b' g o n o' n' hl hb'
    subst this
    exact hS (List.mem_map.2 ⟨_, get_mem hk, rfl⟩)
theorem rv_row_cell {b g o n : Nat} {e : TypeId} {sz : Nat} {xs : List (List AV)} (hr : HR C ρ U h w) (hb : get h b = some (.row e sz xs)) (hl : ρ b = .at g o n) :
    (∀ (k : Nat) (x : List AV), xs[k]? = some x → x.length = sz) ∧ ∃ f : Nat → Value, ∀ (k : Nat) (x : List AV) (j : Nat) (c : AV), xs[k]? = some x → x[j]? = some c →
      w.cell? ⟨g, o + (k * sz + j), none⟩ = some (f (k * sz + j)) ∧ (f (k * sz + j)).oneCell' = true ∧ VP w (okc C ρ w) c (f (k * sz + j)) := by
  obtain ⟨_, ho⟩ := hr.hp b _ hb
  rw [hl] at ho
  rcases ho with ⟨h1, _⟩ | ⟨g', o', n', cells, h1, h2, h3, h4, h5, h6⟩
  · cases h1
  · cases h1
    refine ⟨h5, fun i => (cells[o + i]?).getD undef, fun k x j c hk hj => ?_⟩
    obtain ⟨u, hu, h7, h8⟩ := h6 k x j c hk hj
    simp only [hu, Option.getD_some]
    exact ⟨by simp [World.cell?, h2, hu], h7, h8⟩
theorem rv_vp (hr : HR C ρ U h w) {x : AV} {u : Value} (hv : VP w (okc C ρ w) x u) : ∀ x', rv h S N x' x → VR w (okc C (newLoc ρ S N) w) (newLoc ρ S N) (newU S N) x' u := by
  induction hv with
  | v a =>
    intro x' hx
    cases x' with
    | v b =>
      simp only [rv] at hx
      cases hx; exact .p (.v _)
    | sl sz ys =>
      unfold rv at hx
      split at hx
      · rename_i e; cases e
      · rename_i e; cases e; subst hx; exact .p .nilsl
      · rename_i e; cases e
      · exact hx.elim
    | own k sz off len =>
      unfold rv at hx
      split at hx
      · rename_i e; cases e
      · rename_i e; cases e
        obtain ⟨hN, hS, rfl⟩ := hx
        refine .own (.inr hN) ⟨⟨_, _, _, rfl⟩, ?_⟩
        have : newLoc ρ S N k = .nil := by simp [newLoc, hS, hN]
        rw [this]; exact ⟨rfl, rfl⟩
      · exact hx.elim
    | _ => simp only [rv] at hx
  | agg hl hc ih =>
    intro x' hx
    cases x' <;> simp only [rv] at hx <;> try (cases hx; done)
    have h1 := rvL_len _ _ hx
    refine .agg (by omega) fun i c u hi hu => ?_
    obtain ⟨x, h2, h3⟩ := rvL_get _ _ hx i c hi
    exact ih i x u h2 hu c h3
  | tup hl hc ih =>
    intro x' hx
    cases x' <;> simp only [rv] at hx <;> try (cases hx; done)
    have h1 := rvL_len _ _ hx
    refine .tup (by omega) fun i c u hi hu => ?_
    obtain ⟨x, h2, h3⟩ := rvL_get _ _ hx i c hi
    exact ih i x u h2 hu c h3
  | fn hf hl hc ih =>
    intro x' hx
    cases x' <;> simp only [rv] at hx <;> try (cases hx; done)
    obtain ⟨rfl, hx⟩ := hx
    have h1 := rvL_len _ _ hx
    refine .fn hf (by omega) fun i c u hi hu => ?_
    obtain ⟨x, h2, h3⟩ := rvL_get _ _ hx i c hi
    exact ih i x u h2 hu c h3
  | slc h hc ih =>
    intro x' hx
    cases x' <;> simp only [rv] at hx <;> try (cases hx; done)
    obtain ⟨rfl, hx⟩ := hx
    rename_i ys
    match ys, hx with
    | [y], hx =>
      simp only [rvL, and_true] at hx
      have h2 := ih y hx
      cases y <;> simp only [rv] at hx <;> try (cases hx; done)
      obtain ⟨rfl, rfl⟩ := hx
      exact .p (.slc h2.sl_inv hc)
    | [], hx => simp only [rvL] at hx
    | _ :: _ :: _, hx => simp only [rvL, and_false] at hx
  | nilsl =>
    intro x' hx
    cases x' <;> simp only [rv] at hx <;> try (cases hx; done)
    obtain ⟨rfl, rfl⟩ := hx
    exact .p .nilsl
  | sl a n cap f hn hcap hk hl hc hv ih =>
    intro x' hx
    cases x' <;> simp only [rv] at hx <;> try (cases hx; done)
    obtain ⟨rfl, rfl⟩ := hx
    exact .p (VP.new (.sl a n cap f hn hcap hk hl hc hv))
  | pel g o f hk hc hv ih =>
    intro x' hx
    cases x' <;> simp only [rv] at hx <;> try (cases hx; done)
    obtain ⟨rfl, rfl⟩ := hx
    exact .p (VP.new (.pel g o f hk hc hv))
theorem rv_vr (hr : HR C ρ U h w) {x : AV} {u : Value} (hv : VR w (okc C ρ w) ρ U x u) : ∀ x', rv h S N x' x → VR w (okc C (newLoc ρ S N) w) (newLoc ρ S N) (newU S N) x' u := by
  induction hv with
  | p hv => exact rv_vp hr hv
  | agg hl hc ih =>
    intro x' hx
    cases x' <;> simp only [rv] at hx <;> try (cases hx; done)
    have h1 := rvL_len _ _ hx
    refine .agg (by omega) fun i c u hi hu => ?_
    obtain ⟨x, h2, h3⟩ := rvL_get _ _ hx i c hi
    exact ih i x u h2 hu c h3
  | tup hl hc ih =>
    intro x' hx
    cases x' <;> simp only [rv] at hx <;> try (cases hx; done)
    have h1 := rvL_len _ _ hx
    refine .tup (by omega) fun i c u hi hu => ?_
    obtain ⟨x, h2, h3⟩ := rvL_get _ _ hx i c hi
    exact ih i x u h2 hu c h3
  | fn hf hl hc ih =>
    intro x' hx
    cases x' <;> simp only [rv] at hx <;> try (cases hx; done)
    obtain ⟨rfl, hx⟩ := hx
    have h1 := rvL_len _ _ hx
    refine .fn hf (by omega) fun i c u hi hu => ?_
    obtain ⟨x, h2, h3⟩ := rvL_get _ _ hx i c hi
    exact ih i x u h2 hu c h3
  | @own b sz off len u hu ho =>
    intro x' hx
    cases x' with
    | own k sz' off' len' =>
      simp only [rv] at hx
      obtain ⟨h1, rfl, rfl, rfl⟩ := hx
      exact .own (newU_of h1) (by rw [newLoc_of h1]; exact ho)
    | sl sz' ys =>
      simp only [rv] at hx
      obtain ⟨hS, rfl, hx⟩ := hx
      split at hx
      · rename_i e sz'' xs hb
        obtain ⟨rfl, hle, rfl⟩ := hx
        obtain ⟨_, hob⟩ := hr.hp b _ hb
        obtain ⟨_, ho⟩ := ho
        cases hl : ρ b with
        | dead =>
          rw [hl] at hob
          rcases hob with ⟨h1, _⟩ | ⟨g, o, n, cells, h1, _⟩ <;> cases h1
        | nil =>
          rw [hl] at ho
          obtain ⟨rfl, rfl⟩ := ho
          simp only [List.take_zero]
          exact .p .nilsl
        | «at» g o n =>
          rw [hl] at ho
          obtain ⟨h5, f, hf⟩ := rv_row_cell hr hb hl
          have hok := okc_of_dropped (S := S) (N := N) hr hb hl hS
          have hlen : ((xs.drop off).take len).length = len := by simp; omega
          have hget : ∀ (k : Nat) (x : List AV), ((xs.drop off).take len)[k]? = some x → xs[off + k]? = some x := fun k x hk => by
            rw [List.getElem?_take] at hk
            split at hk
            · rw [List.getElem?_drop] at hk; exact hk
            · cases hk
          rcases ho with ⟨rfl, _, rfl | ⟨a, rfl⟩⟩ | ⟨cap, h1, h2, rfl⟩
          · simp only [List.take_zero]
            exact .p .nilsl
          · simp only [List.take_zero]
            exact .p (.sl a 0 0 (fun _ _ => undef) rfl (Nat.le_refl _) (fun h => absurd h (by simp)) (fun k e h => by simp at h) (fun k e j c h => by simp at h) (fun k e j c h => by simp at h))
          · refine .p (.sl ⟨g, o + off * sz', none⟩ len cap (fun k j => f ((off + k) * sz' + j)) hlen.symm h1 (fun _ => ⟨rfl, hok⟩) (fun k e hk => h5 _ e (hget k e hk)) (fun k e j c hk hj => ?_) (fun k e j c hk hj => ?_))
            · obtain ⟨h6, h7, _⟩ := hf _ e j c (hget k e hk) hj
              refine ⟨?_, h7⟩
              rw [← h6]
              congr 2
              simp only [Nat.add_mul]; omega
            · exact (hf _ e j c (hget k e hk) hj).2.2.new
      · exact hx.elim
    | _ => simp only [rv] at hx <;> cases hx
  | @ptr b j a hu ho =>
    intro x' hx
    cases x' <;> simp only [rv] at hx <;> try (cases hx; done)
    obtain ⟨h1, rfl⟩ := hx
    exact .ptr a (newU_of h1) (by rw [newLoc_of h1]; exact ho)
  | @rp b sz k j a hu ho =>
    intro x' hx
    cases x' with
    | rp k' sz' i' j' =>
      simp only [rv] at hx
      obtain ⟨h1, rfl, rfl, rfl⟩ := hx
      exact .rp a (newU_of h1) (by rw [newLoc_of h1]; exact ho)
    | pel cs j' =>
      simp only [rv] at hx
      obtain ⟨hS, rfl, hx⟩ := hx
      split at hx
      · rename_i e sz'' xs hb
        obtain ⟨rfl, hlt, rfl⟩ := hx
        obtain ⟨_, hob⟩ := hr.hp b _ hb
        cases hl : ρ b with
        | dead =>
          rw [hl] at hob
          rcases hob with ⟨h1, _⟩ | ⟨g, o, n, cells, h1, _⟩ <;> cases h1
        | nil =>
          rw [hl] at hob
          rcases hob with ⟨_, rfl⟩ | ⟨g, o, n, cells, h1, _⟩
          · simp at hlt
          · cases h1
        | «at» g o n =>
          obtain ⟨h5, f, hf⟩ := rv_row_cell hr hb hl
          have hok := okc_of_dropped (S := S) (N := N) hr hb hl hS
          have hk : xs[k]? = some (nth xs k) := by simp [nth, hlt]
          have ha := ho g o n hl
          subst ha
          have e1 : o + (k * sz + j') = (o + k * sz) + j' := by omega
          rw [e1]
          refine .p (.pel g (o + k * sz) (fun i => f (k * sz + i)) hok (fun i c hi => ?_) (fun i c hi => ?_))
          · rw [← (hf k _ i c hk hi).1]
            congr 2
            omega
          · exact (hf k _ i c hk hi).2.2.new
      · exact hx.elim
    | _ => simp only [rv] at hx <;> cases hx
  | @mp b r hu ho =>
    intro x' hx
    cases x' <;> simp only [rv] at hx <;> try (cases hx; done)
    exact .mp r (newU_of hx) (by rw [newLoc_of hx]; exact ho)
theorem okS_spec {h h' : List (Nat × Ob)} (hS : okS h S N h' = true) : (∀ k k' b, get S k = some b → get S k' = some b → k = k') ∧ (∀ k ∈ N, get S k = none) ∧ (∀ k o, get h' k = some o → k ∈ S.map Prod.fst ∨ k ∈ N) ∧
    ∀ b, b < 4 → ∀ cs, get h b = some (.box cs) → get S b = some b := by
  simp only [okS, Bool.and_eq_true, decide_eq_true_eq, List.all_eq_true, Bool.not_eq_true', Bool.or_eq_true] at hS
  obtain ⟨h1, h2, h3, h4, h5, h6, h7⟩ := hS
  refine ⟨fun k k' b hk hk' => ?_, fun k hk => ?_, fun k o hk => ?_, fun b hb cs hcs => ?_⟩
  · clear h2 h3 h4 h5 h6 h7
    induction S with
    | nil => simp [get] at hk
    | cons p S ih =>
      obtain ⟨x, y⟩ := p
      simp only [List.map_cons, List.nodup_cons] at h1
      simp only [get] at hk hk'
      split at hk <;> split at hk'
      · rename_i e1 e2; rw [← e1, ← e2]
      · cases hk
        exact absurd (List.mem_map.2 ⟨_, get_mem hk', rfl⟩) h1.1
      · cases hk'
        exact absurd (List.mem_map.2 ⟨_, get_mem hk, rfl⟩) h1.1
      · exact ih h1.2 hk hk'
  · cases hg : get S k with
    | none => rfl
    | some b =>
      have := h2 k hk
      have hm : k ∈ S.map Prod.fst := List.mem_map.2 ⟨_, get_mem hg, rfl⟩
      simp only [List.contains_iff_mem, List.contains_eq_mem, decide_eq_false_iff_not] at this
      exact absurd hm this
  · have := h3 k (List.mem_map.2 ⟨_, get_mem hk, rfl⟩)
    simpa using this
  · have key : ∀ b, keep1 h S b = true → ∀ cs, get h b = some (.box cs) → get S b = some b := fun b hb cs hcs => by
      unfold keep1 at hb
      rw [hcs] at hb
      simpa using hb
    match b, hb with
    | 0, _ => exact key 0 h4 cs hcs
    | 1, _ => exact key 1 h5 cs hcs
    | 2, _ => exact key 2 h6 cs hcs
    | 3, _ => exact key 3 h7 cs hcs
theorem rvH_get {h h' : List (Nat × Ob)} : ∀ (l : List (Nat × Nat)), rvH h S N h' l → ∀ k b, get l k = some b → ∃ y x, get h' k = some y ∧ get h b = some x ∧ rvO h S N y x
  | [], _, k, b, hk => by simp [get] at hk
  | (k0, b0) :: l, hh, k, b, hk => by
    simp only [rvH] at hh
    simp only [get] at hk
    split at hk
    · rename_i e; cases hk; subst e
      obtain ⟨h1, _⟩ := hh
      split at h1
      · rename_i y x hy hx; exact ⟨y, x, hy, hx, h1⟩
      · exact h1.elim
    · exact rvH_get l hh.2 k b hk
theorem rvN_get {h' : List (Nat × Ob)} : ∀ (l : List Nat), rvN h' l → ∀ k ∈ l, ∃ e sz, get h' k = some (.row e sz [])
  | [], _, k, hk => by simp at hk
  | k0 :: l, hh, k, hk => by
    simp only [rvN] at hh
    rcases List.mem_cons.1 hk with rfl | hk
    · obtain ⟨h1, _⟩ := hh
      split at h1
      · rename_i e sz xs hg; subst h1; exact ⟨e, sz, hg⟩
      · exact h1.elim
    · exact rvN_get l hh.2 k hk
theorem rvM_get : ∀ (ys xs : List (Value × AV)), rvM h S N ys xs → ys.length = xs.length ∧ ∀ (i : Nat) (k : Value) (y : AV), ys[i]? = some (k, y) → ∃ x, xs[i]? = some (k, x) ∧ rv h S N y x
  | [], [], _ => ⟨rfl, fun i k y h => by simp at h⟩
  | (k, y) :: l, (k', x) :: l', hh => by
    simp only [rvM] at hh
    obtain ⟨rfl, h2, h3⟩ := hh
    obtain ⟨h4, h5⟩ := rvM_get l l' h3
    refine ⟨by simp [h4], fun i k0 y0 hi => ?_⟩
    cases i with
    | zero => simp at hi; obtain ⟨rfl, rfl⟩ := hi; exact ⟨x, rfl, h2⟩
    | succ i => simpa using h5 i k0 y0 (by simpa using hi)
  | [], _ :: _, hh => by simp [rvM] at hh
  | _ :: _, [], hh => by simp [rvM] at hh
theorem rv_hr (hr : HR C ρ U h w) (hS : okS h S N h' = true) (hH : rvH h S N h' S) (hN : rvN h' N) : HR C (newLoc ρ S N) (newU S N) h' w := by
  obtain ⟨inj, hNS, hdom, h4⟩ := okS_spec hS
  refine ⟨fun k o hk => ?_, fun k hk => ?_, fun k k' g o n o' n' h1 h2 => ?_, hr.os, hr.tape, hr.output, hr.size, hr.old, hr.okl, fun g ho => hr.ownl g (newOwned ho).1, fun b l hb => ?_⟩
  · refine ⟨hdom k o hk, ?_⟩
    cases hg : get S k with
    | some b =>
      rw [newLoc_of hg]
      obtain ⟨y, x, hy, hx, hv⟩ := rvH_get S hH k b hg
      rw [hk] at hy; cases hy
      obtain ⟨_, hob⟩ := hr.hp b x hx
      cases o <;> cases x <;> simp only [rvO] at hv
      · rename_i ys xs
        obtain ⟨g, o, n, e, cells, h1, h2, h3, h5, h6⟩ := hob
        have hl := rvL_len _ _ hv
        refine ⟨g, o, n, e, cells, h1, h2, h3, by omega, fun j c hj => ?_⟩
        obtain ⟨x, hx, hxv⟩ := rvL_get _ _ hv j c hj
        obtain ⟨u, hu, huv⟩ := h6 j x hx
        exact ⟨u, hu, rv_vr hr huv c hxv⟩
      · obtain ⟨rfl, rfl, rfl⟩ := hv
        rcases hob with hob | ⟨g, o, n, cells, h1, h2, h3, h5, h6, h7⟩
        · exact .inl hob
        · refine .inr ⟨g, o, n, cells, h1, h2, h3, h5, h6, fun k x j c hk hj => ?_⟩
          obtain ⟨u, hu, h8, h9⟩ := h7 k x j c hk hj
          exact ⟨u, hu, h8, h9.new⟩
      · obtain ⟨g, ents, clock, h1, h2, h3, h5⟩ := hob
        obtain ⟨hl, hgM⟩ := rvM_get _ _ hv
        refine ⟨g, ents, clock, h1, h2, by omega, fun i k c m hi he => ?_⟩
        obtain ⟨x, hx, hxv⟩ := hgM i k c hi
        exact ⟨(h5 i k x m hx he).1, rv_vr hr (h5 i k x m hx he).2 c hxv⟩
    | none =>
      have hkN : k ∈ N := by
        rcases hdom k o hk with h | h
        · obtain ⟨b, hb⟩ := get_keys h
          rw [hg] at hb; cases hb
        · exact h
      obtain ⟨e, sz, hrow⟩ := rvN_get N hN k hkN
      rw [hk] at hrow; cases hrow
      refine .inl ⟨?_, rfl⟩
      simp only [newLoc, hg, hkN, if_true]
  · cases hg : get S k with
    | some b =>
      obtain ⟨y, x, hy, _⟩ := rvH_get S hH k b hg
      rw [hk] at hy; cases hy
    | none =>
      have hkN : k ∉ N := fun h => by
        obtain ⟨e, sz, hrow⟩ := rvN_get N hN k h
        rw [hk] at hrow; cases hrow
      simp only [newLoc, hg, hkN, if_false]
  · have key : ∀ k g o n, newLoc ρ S N k = .at g o n → ∃ b, get S k = some b ∧ ρ b = .at g o n := fun k g o n hk => by
      unfold newLoc at hk
      split at hk
      · rename_i b hb; exact ⟨b, hb, hk⟩
      · split at hk <;> cases hk
    obtain ⟨b, hb, hl⟩ := key k g o n h1
    obtain ⟨b', hb', hl'⟩ := key k' g o' n' h2
    have := hr.inj b b' g o n o' n' hl hl'
    subst this
    exact inj k k' b hb hb'
  · obtain ⟨h1, h2, cs, h3⟩ := hr.fix b l hb
    have hg := h4 b (C.locb b l hb) cs h3
    refine ⟨by rw [newLoc_of hg]; exact h1, newU_of hg, ?_⟩
    obtain ⟨y, x, hy, hx, hv⟩ := rvH_get S hH b b hg
    rw [h3] at hx; cases hx
    cases y <;> simp only [rvO] at hv
    exact ⟨_, hy⟩
theorem Wk.mk {s s' : St} (S : List (Nat × Nat)) (N : List Nat) (hS : okS s.h S N s'.h = true) (hn : (S.map Prod.fst ++ N).all (fun k => decide (k < s'.n)) = true)
    (hH : rvH s.h S N s'.h S) (hN : rvN s'.h N) (hT : rvT s.h S N s.t s'.t) : Wk s s' := by
  intro C ρ U a w hR hU
  refine ⟨newLoc ρ S N, newU S N, ⟨rv_hr hR.hr hS hH hN, hR.defers, hR.sz, fun k x' hk => ?_⟩, fun b hb => ?_⟩
  · have key : ∀ l, rvT s.h S N s.t l → get l k = some x' → ∃ x, get s.t k = some x ∧ rv s.h S N x' x := fun l => by
      induction l with
      | nil => intro _ h; simp [get] at h
      | cons p l ih =>
        obtain ⟨j, y⟩ := p
        intro h hg
        simp only [rvT] at h
        simp only [get] at hg
        split at hg
        · rename_i e; cases hg; subst e
          obtain ⟨h1, _⟩ := h
          split at h1
          · rename_i x hx; exact ⟨x, hx, h1⟩
          · exact h1.elim
        · exact ih h.2 hg
    obtain ⟨x, hx, hv⟩ := key s'.t hT hk
    obtain ⟨u, hu, hvr⟩ := hR.tm k x hx
    exact ⟨u, hu, rv_vr hR.hr hvr x' hv⟩
  · simp only [List.all_eq_true, List.mem_append, decide_eq_true_eq] at hn
    rcases hb with hb | hb
    · exact hn b (.inl hb)
    · exact hn b (.inr hb)
theorem rvT_get {h h' : List (Nat × Ob)} {S : List (Nat × Nat)} {N : List Nat} {t : List (Nat × AV)} {k : Nat} {x' : AV} : ∀ l, rvT h S N t l → get l k = some x' → ∃ x, get t k = some x ∧ rv h S N x' x := fun l => by
  induction l with
  | nil => intro _ h; simp [get] at h
  | cons p l ih =>
    obtain ⟨j, y⟩ := p
    intro h hg
    simp only [rvT] at h
    simp only [get] at hg
    split at hg
    · rename_i e; cases hg; subst e
      obtain ⟨h1, _⟩ := h
      split at h1
      · rename_i x hx; exact ⟨x, hx, h1⟩
      · exact h1.elim
    · exact ih h.2 hg
theorem WkTH.mk {t t' : List (Nat × AV)} {h h' : List (Nat × Ob)} (S : List (Nat × Nat)) (hid : S.all (fun p => p.1 == p.2) = true) (hS : okS h S [] h' = true) (hH : rvH h S [] h' S) (hT : rvT h S [] t t') : WkTH t h t' h' := by
  intro C ρ U a w hR
  refine ⟨newLoc ρ S [], newU S [], ⟨rv_hr hR.hr hS hH (by simp only [rvN]), hR.defers, hR.sz, fun k x' hk => ?_⟩, fun b hb => ?_⟩
  · obtain ⟨x, hx, hv⟩ := rvT_get (h' := h') t' hT hk
    obtain ⟨u, hu, hvr⟩ := hR.tm k x hx
    exact ⟨u, hu, rv_vr hR.hr hvr x' hv⟩
  · rcases hb with hb | hb
    · obtain ⟨c, hc⟩ := get_keys hb
      have := List.all_eq_true.1 hid _ (get_mem hc)
      simp only [beq_iff_eq] at this
      subst this
      obtain ⟨y, x, _, hx, _⟩ := rvH_get S hH b b hc
      exact (hR.hr.hp b x hx).1
    · simp at hb
end
end Go.Eng

namespace Go.Eng
open Go
inductive SRes where
  | tmp (k : Nat)
  | cell (k : Nat) (ag : Bool) (sz : Nat)
def stripRes (P : Program) : List ResultVar → Option (List SRes)
  | [] => some []
  | .tmp k :: l => match stripRes P l with
    | some r => some (.tmp k :: r)
    | none => none
  | .cell k ty :: l => match aggP P ty, sizeP P ty, stripRes P l with
    | some ag, some sz, some r => some (.cell k ag sz :: r)
    | _, _, _ => none
def retV (t : List (Nat × AV)) (h : List (Nat × Ob)) : List SRes → Option (List AV)
  | [] => some []
  | .tmp k :: l => match get t k, retV t h l with
    | some x, some r => some (x :: r)
    | _, _ => none
  | .cell k ag sz :: l => match get t k, retV t h l with
    | some (.ptr b 0), some r => match get h b with
      | some (.box cs) => if ag then (if sz = cs.length then some (.agg cs :: r) else none) else match cs with
        | c :: _ => some (c :: r)
        | [] => none
      | _ => none
    | _, _ => none
def retOne : List AV → AV
  | [x] => x
  | xs => .tup xs
def resF (tmps : Array Value) : ResultVar → Sem Value
  | .tmp t => pure (tmps.getD t undef)
  | .cell a t => do loadVar t (← asAddr (tmps.getD a undef))
section
variable {P : Program} {C : Ctx} {ρ : Nat → Loc} {U : Nat → Prop} {h : List (Nat × Ob)} {w : World} {t : List (Nat × AV)} {a : Act}
theorem retV_ok (hr : HR C ρ U h w) (ht : Tm C ρ U w t a) : ∀ (l : List ResultVar) (sl : List SRes) (xs : List AV), stripRes P l = some sl → retV t h sl = some xs →
    ∃ vs : List Value, vs.length = l.length ∧ xs.length = l.length ∧ (∀ (i : Nat) (x : ResultVar) (v : Value), l[i]? = some x → vs[i]? = some v → (resF a.tmps x).run P w = .ok v w) ∧
      ∀ (i : Nat) (x : AV) (v : Value), xs[i]? = some x → vs[i]? = some v → VR w (okc C ρ w) ρ U x v
  | [], sl, xs, hs, hx => by
    simp only [stripRes, Option.some.injEq] at hs
    subst hs
    simp only [retV, Option.some.injEq] at hx
    subst hx
    exact ⟨[], rfl, rfl, fun i x v h => by simp at h, fun i x v h => by simp at h⟩
  | .tmp k :: l, sl, xs, hs, hx => by
    simp only [stripRes] at hs
    split at hs
    · rename_i r hr'
      cases hs
      simp only [retV] at hx
      split at hx
      · rename_i x r' hxk hrr
        cases hx
        obtain ⟨vs, h1, h2, h3, h4⟩ := retV_ok hr ht l r r' hr' hrr
        obtain ⟨u, hu, hv⟩ := ht k x hxk
        refine ⟨u :: vs, by simp [h1], by simp [h2], fun i y v hy hv' => ?_, fun i y v hy hv' => ?_⟩
        · cases i with
          | zero =>
            simp at hy hv'; subst hy; subst hv'
            simp [resF, hu]
          | succ i => exact h3 i y v (by simpa using hy) (by simpa using hv')
        · cases i with
          | zero => simp at hy hv'; subst hy; subst hv'; exact hv
          | succ i => exact h4 i y v (by simpa using hy) (by simpa using hv')
      · cases hx
    · cases hs
  | .cell k ty :: l, sl, xs, hs, hx => by
    simp only [stripRes] at hs
    split at hs
    · rename_i ag sz r hag hsz hr'
      cases hs
      simp only [retV] at hx
      split at hx
      · rename_i b r' hxk hrr
        split at hx
        · rename_i cs hb
          obtain ⟨vs, h1, h2, h3, h4⟩ := retV_ok hr ht l r r' hr' hrr
          obtain ⟨u, hu, hv⟩ := ht k _ hxk
          obtain ⟨_, ad, rfl, had⟩ := hv.ptr_inv
          obtain ⟨_, g, o, n, e, cells, hl, hg, hon, hn, hc⟩ := hr.hp b _ hb
          have ha := had g o n hl
          subst ha
          have hL := run_load_at (P := P) (w := w) (ρ := ρ) (U := U) (g := g) (o := o) hag hsz (cs := cs) (vs := ((List.range cs.length).map fun i => (cells[o + i]?).getD undef).toArray) (ok := okc C ρ w) (by simp)
            (fun j v hj => by
              rw [ranged] at hj
              obtain ⟨hlt, rfl⟩ := hj
              rw [cell_heap hg, Array.getElem?_eq_getElem (show o + j < cells.size by omega)]
              rfl)
            (fun j c v hj hv => by
              rw [ranged] at hv
              obtain ⟨hlt, rfl⟩ := hv
              obtain ⟨u, hu, hv⟩ := hc j c hj
              rw [hu]; exact hv)
          have fin : ∀ x, (∃ v, (loadVar ty ⟨g, o, none⟩).run P w = .ok v w ∧ VR w (okc C ρ w) ρ U x v) → xs = x :: r' → ∃ vs : List Value, vs.length = (ResultVar.cell k ty :: l).length ∧ xs.length = (ResultVar.cell k ty :: l).length ∧ (∀ (i : Nat) (x : ResultVar) (v : Value), (ResultVar.cell k ty :: l)[i]? = some x → vs[i]? = some v → (resF a.tmps x).run P w = .ok v w) ∧
                ∀ (i : Nat) (x : AV) (v : Value), xs[i]? = some x → vs[i]? = some v → VR w (okc C ρ w) ρ U x v := fun x hxv hxs => by
            obtain ⟨v, hrun, hvr⟩ := hxv
            exact ⟨v :: vs, by simp [h1], by rw [hxs]; simp [h2], fun i y v' hy hv' => by
              cases i with
              | zero =>
                simp at hy hv'; subst hy; subst hv'
                simp only [resF, Sem.run_bind, Array.getD_eq_getD_getElem?, hu, Option.getD_some, asAddr, Sem.run_pure, Result.andThen_ok]
                exact hrun
              | succ i => exact h3 i y v' (by simpa using hy) (by simpa using hv'), fun i y v' hy hv' => by
              rw [hxs] at hy
              cases i with
              | zero => simp at hy hv'; subst hy; subst hv'; exact hvr
              | succ i => exact h4 i y v' (by simpa using hy) (by simpa using hv')⟩
          split at hx
          · rename_i hag'
            split at hx
            · rename_i hsz'
              cases hx
              exact fin _ (hL.1 hag' hsz') rfl
            · cases hx
          · rename_i hag'
            split at hx
            · rename_i c cs' 
              cases hx
              exact fin _ (hL.2 (by simpa using hag') c rfl) rfl
            · cases hx
        · cases hx
      · cases hx
    · cases hs
theorem results_eq {fn : Func} (tmps : Array Value) (w : World) {l : List ResultVar} (hl : fn.results.toList = l) {vs : List Value} (h1 : vs.length = l.length) (h3 : l.length ≤ 5)
    (hv : ∀ (i : Nat) (x : ResultVar) (v : Value), l[i]? = some x → vs[i]? = some v → (resF tmps x).run P w = .ok v w) :
    (results fn tmps).run P w = .ok (if h : vs.length = 1 then vs[0] else .tuple vs.toArray) w := by
  have he : fn.results = l.toArray := by rw [← hl]
  have e0 : results fn tmps = (do let vs ← l.toArray.mapM (resF tmps); pure (if h : vs.size = 1 then vs[0] else .tuple vs)) := by
    rw [← he]
    unfold results
    rfl
  rw [e0]
  clear he e0
  subst hl
  revert hv h1 h3
  generalize fn.results.toList = l
  intro h1 h3 hv
  match l, vs, h1, hv with
  | [], [], _, _ => simp
  | [x], [v], _, hv =>
    have := (hv 0 x v rfl rfl)
    simp [this]
  | [x, y], [v, u], _, hv =>
    have e1 := (hv 0 x v rfl rfl)
    have e2 := (hv 1 y u rfl rfl)
    simp [e1, e2]
  | [x, y, z], [v, u, q], _, hv =>
    have e1 := (hv 0 x v rfl rfl)
    have e2 := (hv 1 y u rfl rfl)
    have e3 := (hv 2 z q rfl rfl)
    simp [e1, e2, e3]
  | [x, y, z, x'], [v, u, q, v'], _, hv =>
    have e1 := (hv 0 x v rfl rfl)
    have e2 := (hv 1 y u rfl rfl)
    have e3 := (hv 2 z q rfl rfl)
    have e4 := (hv 3 x' v' rfl rfl)
    simp [e1, e2, e3, e4]
  | [x, y, z, x', y'], [v, u, q, v', u'], _, hv =>
    have e1 := (hv 0 x v rfl rfl)
    have e2 := (hv 1 y u rfl rfl)
    have e3 := (hv 2 z q rfl rfl)
    have e4 := (hv 3 x' v' rfl rfl)
    have e5 := (hv 4 y' u' rfl rfl)
    simp [e1, e2, e3, e4, e5]
  | _ :: _ :: _ :: _ :: _ :: _ :: _, _, _, _ => simp at h3
theorem retOne_ok {xs : List AV} {vs : List Value} (hl : xs.length = vs.length) (hv : ∀ (i : Nat) (x : AV) (v : Value), xs[i]? = some x → vs[i]? = some v → VR w (okc C ρ w) ρ U x v) :
    VR w (okc C ρ w) ρ U (retOne xs) (if h : vs.length = 1 then vs[0] else .tuple vs.toArray) := by
  match xs, vs, hl, hv with
  | [], [], _, _ => exact .tup rfl (fun i c u h => by simp at h)
  | [x], [v], _, hv => exact hv 0 x v rfl rfl
  | x :: y :: xs, v :: u :: vs, hl, hv =>
    rw [dif_neg (by simp)]
    refine .tup (by simpa using hl) fun i c u' hi hu => hv i c u' hi (by simpa using hu)
end
end Go.Eng

namespace Go.Eng
open Go
def obsFrom : Nat → List Ob → List (Nat × Ob)
  | _, [] => []
  | k, o :: l => (k, o) :: obsFrom (k + 1) l
def boxesFrom (k : Nat) (bs : List (List AV)) : List (Nat × Ob) := obsFrom k (bs.map .box)
def boxesAt : List Nat → List (List AV) → List (Nat × Ob)
  | b :: B, cs :: bs => (b, .box cs) :: boxesAt B bs
  | _, _ => []
def outs (bs : List (List AV)) (es : List Ob) : List (Nat × Ob) := boxesFrom 0 bs ++ obsFrom 4 es
mutual
def sh (nm : Nat) : AV → AV
  | .own k sz off len => .own (nm + (k - 4)) sz off len
  | .ptr k j => .ptr (nm + (k - 4)) j
  | .agg cs => .agg (shL nm cs)
  | .tup cs => .tup (shL nm cs)
  | .fn f cs => .fn f (shL nm cs)
  | x => x
def shL (nm : Nat) : List AV → List AV
  | [] => []
  | c :: cs => sh nm c :: shL nm cs
end
mutual
def expA (m : Nat) : AV → Bool
  | .v _ => true
  | .sl _ _ => true
  | .pel _ _ => true
  | .own k _ _ _ => decide (4 ≤ k) && decide (k < 4 + m)
  | .ptr k _ => decide (4 ≤ k) && decide (k < 4 + m)
  | .agg cs => expL m cs
  | .tup cs => expL m cs
  | .fn _ cs => expL m cs
  | _ => false
def expL (m : Nat) : List AV → Bool
  | [] => true
  | c :: cs => expA m c && expL m cs
end
mutual
def na : AV → Bool
  | .v _ => true
  | .own _ _ _ _ => true
  | .agg cs => naL cs
  | .tup cs => naL cs
  | .fn _ cs => naL cs
  | _ => false
def naL : List AV → Bool
  | [] => true
  | c :: cs => na c && naL cs
end
theorem shL_get (nm : Nat) : ∀ (cs : List AV) (i : Nat) (c : AV), (shL nm cs)[i]? = some c → ∃ x, cs[i]? = some x ∧ c = sh nm x
  | [], i, c, h => by simp [shL] at h
  | x :: cs, 0, c, h => by simp [shL] at h; exact ⟨x, rfl, h.symm⟩
  | x :: cs, i + 1, c, h => by
    simp only [shL, List.getElem?_cons_succ] at h
    simpa using shL_get nm cs i c h
theorem shL_len (nm : Nat) : ∀ (cs : List AV), (shL nm cs).length = cs.length
  | [] => rfl
  | x :: cs => by simp [shL, shL_len nm cs]
theorem expL_get {m : Nat} : ∀ (cs : List AV), expL m cs = true → ∀ (i : Nat) (c : AV), cs[i]? = some c → expA m c = true
  | [], _, i, c, h => by simp at h
  | x :: cs, hh, 0, c, h => by simp only [expL, Bool.and_eq_true] at hh; simp at h; subst h; exact hh.1
  | x :: cs, hh, i + 1, c, h => by simp only [expL, Bool.and_eq_true] at hh; exact expL_get cs hh.2 i c (by simpa using h)
theorem naL_get : ∀ (cs : List AV), naL cs = true → ∀ (i : Nat) (c : AV), cs[i]? = some c → na c = true
  | [], _, i, c, h => by simp at h
  | x :: cs, hh, 0, c, h => by simp only [naL, Bool.and_eq_true] at hh; simp at h; subst h; exact hh.1
  | x :: cs, hh, i + 1, c, h => by simp only [naL, Bool.and_eq_true] at hh; exact naL_get cs hh.2 i c (by simpa using h)
theorem get_obsFrom : ∀ (l : List Ob) (k j : Nat), get (obsFrom k l) j = if k ≤ j then l[j - k]? else none
  | [], k, j => by simp [obsFrom]
  | o :: l, k, j => by
    simp only [obsFrom, get]
    by_cases e : k = j
    · subst e; simp
    · rw [if_neg e, get_obsFrom l (k + 1) j]
      by_cases h : k ≤ j
      · rw [if_pos h, if_pos (show k + 1 ≤ j by omega)]
        have : j - k = (j - (k + 1)) + 1 := by omega
        rw [this, List.getElem?_cons_succ]
      · rw [if_neg h, if_neg (by omega)]
theorem get_append {α : Type} (us t : List (Nat × α)) (k : Nat) : get (us ++ t) k = match get us k with
    | some x => some x
    | none => get t k := by
  induction us with
  | nil => rfl
  | cons p us ih =>
    obtain ⟨a, b⟩ := p
    simp only [List.cons_append, get]
    split
    · rfl
    · exact ih
theorem get_outs_box {bs : List (List AV)} {es : List Ob} {i : Nat} {cs : List AV} (h : bs[i]? = some cs) : get (outs bs es) i = some (.box cs) := by
  simp [outs, get_append, boxesFrom, get_obsFrom, h]
theorem get_outs_exp {bs : List (List AV)} {es : List Ob} {i : Nat} {o : Ob} (hb : bs.length ≤ 4) (h : es[i]? = some o) : get (outs bs es) (4 + i) = some o := by
  have : (bs.map Ob.box)[4 + i]? = none := by rw [List.getElem?_map, List.getElem?_eq_none (by omega)]; rfl
  simp only [outs, get_append, boxesFrom, get_obsFrom, Nat.zero_le, if_true, Nat.sub_zero, this]
  rw [if_pos (by omega)]
  have : 4 + i - 4 = i := by omega
  rw [this, h]
theorem get_boxesAt : ∀ (B : List Nat) (bs : List (List AV)) (k : Nat) (o : Ob), get (boxesAt B bs) k = some o → ∃ (i : Nat) (cs : List AV), B[i]? = some k ∧ bs[i]? = some cs ∧ o = .box cs
  | [], bs, k, o, h => by simp [boxesAt, get] at h
  | b :: B, [], k, o, h => by simp [boxesAt, get] at h
  | b :: B, cs :: bs, k, o, h => by
    simp only [boxesAt, get] at h
    split at h
    · rename_i e; cases h; subst e; exact ⟨0, cs, rfl, rfl, rfl⟩
    · obtain ⟨i, cs', h1, h2, h3⟩ := get_boxesAt B bs k o h
      exact ⟨i + 1, cs', by simpa using h1, by simpa using h2, h3⟩
theorem get_boxesAt_none : ∀ (B : List Nat) (bs : List (List AV)) (k : Nat), get (boxesAt B bs) k = none → B.length = bs.length → k ∉ B
  | [], bs, k, h, hl => by simp
  | b :: B, [], k, h, hl => by simp at hl
  | b :: B, cs :: bs, k, h, hl => by
    simp only [boxesAt, get] at h
    split at h
    · cases h
    · rename_i e
      have := get_boxesAt_none B bs k h (by simpa using hl)
      simp only [List.mem_cons, not_or]
      exact ⟨fun h => e h.symm, this⟩
section
variable {w w' : World} {ok ok' : Nat → Prop} {ρ ρ' : Nat → Loc} {U U' : Nat → Prop}
theorem ObR.mono (hok : ∀ g, ok g → ok' g) (hw : ∀ g, ok g → w'.heap[g]? = w.heap[g]?) (hU : ∀ b, U b → U' b) (hρ : Later U ρ ρ') {l : Loc} {o : Ob}
    (hl : ∀ g o n, l = .at g o n → w'.heap[g]? = w.heap[g]?) (ho : ObR w ok ρ U l o) : ObR w' ok' ρ' U' l o := by
  cases o with
  | box cs =>
    obtain ⟨g, o, n, e, cells, h1, h2, h3, h4, h5⟩ := ho
    refine ⟨g, o, n, e, cells, h1, (hl g o n h1).trans h2, h3, h4, fun j c hj => ?_⟩
    obtain ⟨u, hu, hv⟩ := h5 j c hj
    exact ⟨u, hu, hv.mono hok hw hU hρ⟩
  | row e sz xs =>
    rcases ho with ho | ⟨g, o, n, cells, h1, h2, h3, h4, h5, h6⟩
    · exact .inl ho
    · refine .inr ⟨g, o, n, cells, h1, (hl g o n h1).trans h2, h3, h4, h5, fun k x j c hk hj => ?_⟩
      obtain ⟨u, hu, h1c, hv⟩ := h6 k x j c hk hj
      exact ⟨u, hu, h1c, hv.mono hok hw⟩
  | map es =>
    obtain ⟨g, ents, clock, h1, h2, h3, h4⟩ := ho
    exact ⟨g, ents, clock, h1, (hl g 0 0 h1).trans h2, h3, fun i k c m hi he => ⟨(h4 i k c m hi he).1, (h4 i k c m hi he).2.mono hok hw hU hρ⟩⟩
  | dead => exact ho
theorem VP.na {x : AV} {u : Value} (h : VP w ok x u) : Eng.na x = true → VP w' ok' x u := by
  induction h with
  | v x => intro _; exact .v x
  | agg hl _ ih => intro hn; exact .agg hl fun i c u h1 h2 => ih i c u h1 h2 (naL_get _ (by simpa [Eng.na] using hn) i c h1)
  | tup hl _ ih => intro hn; exact .tup hl fun i c u h1 h2 => ih i c u h1 h2 (naL_get _ (by simpa [Eng.na] using hn) i c h1)
  | fn hf hl _ ih => intro hn; exact .fn hf hl fun i c u h1 h2 => ih i c u h1 h2 (naL_get _ (by simpa [Eng.na] using hn) i c h1)
  | slc h hc ih => intro hn; simp [Eng.na, naL] at hn
  | nilsl => intro hn; simp [Eng.na] at hn
  | sl => intro hn; simp [Eng.na] at hn
  | pel => intro hn; simp [Eng.na] at hn
theorem VR.sh {nm m : Nat} (hok : ∀ g, ok g → ok' g) (hρ : ∀ i, i < m → ρ' (nm + i) = ρ (4 + i)) (hU : ∀ i, i < m → U' (nm + i)) {x : AV} {u : Value} (h : VR w ok ρ U x u) :
    expA m x = true → VR w ok' ρ' U' (Eng.sh nm x) u := by
  have kp : ∀ {x : AV} {u : Value}, VP w ok x u → VR w ok' ρ' U' (Eng.sh nm x) u := fun h => by
    induction h with
    | v x => exact .p (.v x)
    | agg hl _ ih =>
      refine .agg (by rw [shL_len]; exact hl) fun i c u h1 h2 => ?_
      obtain ⟨x, hx, rfl⟩ := shL_get nm _ i c h1
      exact ih i x u hx h2
    | tup hl _ ih =>
      refine .tup (by rw [shL_len]; exact hl) fun i c u h1 h2 => ?_
      obtain ⟨x, hx, rfl⟩ := shL_get nm _ i c h1
      exact ih i x u hx h2
    | fn hf hl _ ih =>
      refine .fn hf (by rw [shL_len]; exact hl) fun i c u h1 h2 => ?_
      obtain ⟨x, hx, rfl⟩ := shL_get nm _ i c h1
      exact ih i x u hx h2
    | slc h hc ih => exact .p (.slc (h.mono hok (fun _ _ => rfl)) hc)
    | nilsl => exact .p .nilsl
    | sl a n cap f h1 h2 h3 h4 h5 h6 => exact .p ((VP.sl a n cap f h1 h2 h3 h4 h5 h6).mono hok (fun _ _ => rfl))
    | pel g o f h1 h2 h3 => exact .p ((VP.pel g o f h1 h2 h3).mono hok (fun _ _ => rfl))
  induction h with
  | p h => intro _; exact kp h
  | agg hl _ ih =>
    intro he
    refine .agg (by rw [shL_len]; exact hl) fun i c u h1 h2 => ?_
    obtain ⟨x, hx, rfl⟩ := shL_get nm _ i c h1
    exact ih i x u hx h2 (expL_get _ (by simpa [expA] using he) i x hx)
  | tup hl _ ih =>
    intro he
    refine .tup (by rw [shL_len]; exact hl) fun i c u h1 h2 => ?_
    obtain ⟨x, hx, rfl⟩ := shL_get nm _ i c h1
    exact ih i x u hx h2 (expL_get _ (by simpa [expA] using he) i x hx)
  | fn hf hl _ ih =>
    intro he
    refine .fn hf (by rw [shL_len]; exact hl) fun i c u h1 h2 => ?_
    obtain ⟨x, hx, rfl⟩ := shL_get nm _ i c h1
    exact ih i x u hx h2 (expL_get _ (by simpa [expA] using he) i x hx)
  | own hu h =>
    intro he
    simp only [expA, Bool.and_eq_true, decide_eq_true_eq] at he
    rename_i b sz off len u
    have e : 4 + (b - 4) = b := by omega
    refine .own (hU _ (by omega)) ?_
    rw [hρ _ (by omega), e]
    exact h
  | ptr a hu h =>
    intro he
    simp only [expA, Bool.and_eq_true, decide_eq_true_eq] at he
    rename_i b j
    have e : 4 + (b - 4) = b := by omega
    refine .ptr a (hU _ (by omega)) ?_
    rw [hρ _ (by omega), e]
    exact h
  | rp => intro he; simp [expA] at he
  | mp => intro he; simp [expA] at he
theorem VR.sh_na {nm m : Nat} (hρ : ∀ i, i < m → ρ' (nm + i) = ρ (4 + i)) (hU : ∀ i, i < m → U' (nm + i)) {x : AV} {u : Value} (h : VR w ok ρ U x u) :
    expA m x = true → Eng.na x = true → VR w' ok' ρ' U' (Eng.sh nm x) u := by
  have kp : ∀ {x : AV} {u : Value}, VP w ok x u → Eng.na x = true → VR w' ok' ρ' U' (Eng.sh nm x) u := fun h => by
    induction h with
    | v x => intro _; exact .p (.v x)
    | agg hl _ ih =>
      intro hn
      refine .agg (by rw [shL_len]; exact hl) fun i c u h1 h2 => ?_
      obtain ⟨x, hx, rfl⟩ := shL_get nm _ i c h1
      exact ih i x u hx h2 (naL_get _ (by simpa [Eng.na] using hn) i x hx)
    | tup hl _ ih =>
      intro hn
      refine .tup (by rw [shL_len]; exact hl) fun i c u h1 h2 => ?_
      obtain ⟨x, hx, rfl⟩ := shL_get nm _ i c h1
      exact ih i x u hx h2 (naL_get _ (by simpa [Eng.na] using hn) i x hx)
    | fn hf hl _ ih =>
      intro hn
      refine .fn hf (by rw [shL_len]; exact hl) fun i c u h1 h2 => ?_
      obtain ⟨x, hx, rfl⟩ := shL_get nm _ i c h1
      exact ih i x u hx h2 (naL_get _ (by simpa [Eng.na] using hn) i x hx)
    | slc h hc ih => intro hn; simp [Eng.na, naL] at hn
    | nilsl => intro hn; simp [Eng.na] at hn
    | sl => intro hn; simp [Eng.na] at hn
    | pel => intro hn; simp [Eng.na] at hn
  induction h with
  | p h => intro _ hn; exact kp h hn
  | agg hl _ ih =>
    intro he hn
    refine .agg (by rw [shL_len]; exact hl) fun i c u h1 h2 => ?_
    obtain ⟨x, hx, rfl⟩ := shL_get nm _ i c h1
    exact ih i x u hx h2 (expL_get _ (by simpa [expA] using he) i x hx) (naL_get _ (by simpa [Eng.na] using hn) i x hx)
  | tup hl _ ih =>
    intro he hn
    refine .tup (by rw [shL_len]; exact hl) fun i c u h1 h2 => ?_
    obtain ⟨x, hx, rfl⟩ := shL_get nm _ i c h1
    exact ih i x u hx h2 (expL_get _ (by simpa [expA] using he) i x hx) (naL_get _ (by simpa [Eng.na] using hn) i x hx)
  | fn hf hl _ ih =>
    intro he hn
    refine .fn hf (by rw [shL_len]; exact hl) fun i c u h1 h2 => ?_
    obtain ⟨x, hx, rfl⟩ := shL_get nm _ i c h1
    exact ih i x u hx h2 (expL_get _ (by simpa [expA] using he) i x hx) (naL_get _ (by simpa [Eng.na] using hn) i x hx)
  | own hu h =>
    intro he hn
    simp only [expA, Bool.and_eq_true, decide_eq_true_eq] at he
    rename_i b sz off len u
    have e : 4 + (b - 4) = b := by omega
    refine .own (hU _ (by omega)) ?_
    rw [hρ _ (by omega), e]
    exact h
  | ptr => intro he hn; simp [Eng.na] at hn
  | rp => intro he; simp [expA] at he
  | mp => intro he; simp [expA] at he
end
end Go.Eng

namespace Go.Eng
open Go
def rowOk : Ob → Bool
  | .row _ _ _ => true
  | .box cs => pureL cs
  | _ => false
def rowNa : Ob → Prop
  | .row _ _ xs => ∀ x ∈ xs, ∀ c ∈ x, na c = true
  | .box cs => ∀ c ∈ cs, na c = true
  | _ => False
theorem ObR.rowLift {w : World} {ok ok' : Nat → Prop} {ρ ρ' : Nat → Loc} {U U' : Nat → Prop} {l : Loc} {o : Ob} (hr : rowOk o = true) (hok : (∀ g, ok g → ok' g) ∨ rowNa o)
    (ho : ObR w ok ρ U l o) : ObR w ok' ρ' U' l o := by
  cases o with
  | row e sz xs =>
    rcases ho with ho | ⟨g, o, n, cells, h1, h2, h3, h4, h5, h6⟩
    · exact .inl ho
    · refine .inr ⟨g, o, n, cells, h1, h2, h3, h4, h5, fun k x j c hk hj => ?_⟩
      obtain ⟨u, hu, h1c, hv⟩ := h6 k x j c hk hj
      rcases hok with hok | hok
      · exact ⟨u, hu, h1c, hv.mono hok (fun _ _ => rfl)⟩
      · exact ⟨u, hu, h1c, hv.na (hok x (List.mem_of_getElem? hk) c (List.mem_of_getElem? hj))⟩
  | box cs =>
    obtain ⟨g, o, n, e, cells, h1, h2, h3, h4, h5⟩ := ho
    refine ⟨g, o, n, e, cells, h1, h2, h3, h4, fun j c hj => ?_⟩
    obtain ⟨u, hu, hv⟩ := h5 j c hj
    have hp := VP.of_pure_aux hv (pureL_get cs hr j c hj)
    rcases hok with hok | hok
    · exact ⟨u, hu, .p (hp.mono hok (fun _ _ => rfl))⟩
    · exact ⟨u, hu, .p (hp.na (hok c (List.mem_of_getElem? hj)))⟩
  | _ => simp [rowOk] at hr
def argsR (B : List Nat) : List AV → List AV → Prop
  | [], [] => True
  | x :: l, y :: l' => (match x with
    | .ptr i j => match B[i]? with
      | some b => y = .ptr b j
      | none => False
    | x => x = y ∧ x.pure = true) ∧ argsR B l l'
  | _, _ => False
theorem argsR_get {B : List Nat} : ∀ (xs ys : List AV), argsR B xs ys → xs.length = ys.length ∧ ∀ (i : Nat) (x : AV), xs[i]? = some x → ∃ y, ys[i]? = some y ∧
    ((∃ k j b, x = .ptr k j ∧ B[k]? = some b ∧ y = .ptr b j) ∨ (x = y ∧ x.pure = true))
  | [], [], _ => ⟨rfl, fun i b h => by simp at h⟩
  | x :: xs, y :: ys, h => by
    simp only [argsR] at h
    obtain ⟨h1, h2⟩ := argsR_get xs ys h.2
    refine ⟨by simp [h1], fun i c hc => ?_⟩
    cases i with
    | zero =>
      simp at hc; subst hc
      refine ⟨y, rfl, ?_⟩
      obtain ⟨h3, _⟩ := h
      split at h3
      · rename_i k j
        split at h3
        · rename_i b hb; exact .inl ⟨k, j, b, rfl, hb, h3⟩
        · exact h3.elim
      · exact .inr h3
    | succ i => simpa using h2 i c (by simpa using hc)
  | [], _ :: _, h => by simp [argsR] at h
  | _ :: _, [], h => by simp [argsR] at h
section
variable {C C' : Ctx} {ρ ρ1 : Nat → Loc} {U U1 : Nat → Prop} {h : List (Nat × Ob)} {w w' : World} {B : List Nat} {bs' : List (List AV)} {es : List Ob} {nm : Nat}
def backLoc (ρ ρ1 : Nat → Loc) (nm m : Nat) (k : Nat) : Loc := if nm ≤ k ∧ k < nm + m then ρ1 (4 + (k - nm)) else ρ k
def backU (U : Nat → Prop) (nm m : Nat) (k : Nat) : Prop := U k ∨ (nm ≤ k ∧ k < nm + m)
theorem VP_of_pure {w : World} {ok : Nat → Prop} {ρ : Nat → Loc} {U : Nat → Prop} {x : AV} {u : Value} (h : VR w ok ρ U x u) : x.pure = true → VP w ok x u := VP.of_pure_aux h
theorem back (hr : HR C ρ U h w) (hw0 : C'.w0 = w) (hext : ∀ g, C'.ext g ↔ ∃ b ∈ B, ∃ o n, ρ b = .at g o n) (hloc : ∀ i, C'.loc i = (B[i]?).map ρ)
    (hr' : HR C' ρ1 U1 (outs bs' es) w') (hB : ∀ b ∈ B, ∃ cs, get h b = some (.box cs)) (hlen : bs'.length = B.length) (hB4 : B.length ≤ 4) (hes : es.all rowOk = true)
    (hm : es.length ≤ 8) {cs : List (List AV)} (hlc : bs'.length = cs.length) (hrel : ∀ (i : Nat) (c : List AV), cs[i]? = some c → ∃ x, bs'[i]? = some x ∧ argsR B x c) (hfr : ∀ b, U b → ¬ (nm ≤ b ∧ b < nm + 8))
    (hgv : ∀ g, ¬ C'.giv g) (hlift : (∀ g, okc C' ρ1 w' g → okc C (backLoc ρ ρ1 nm es.length) w' g) ∨ (bs' = [] ∧ ∀ o ∈ es, rowNa o)) :
    HR C (backLoc ρ ρ1 nm es.length) (backU U nm es.length) (obsFrom nm es ++ (boxesAt B cs ++ h)) w' ∧
      ∀ x u, VR w (okc C ρ w) ρ U x u → VR w' (okc C (backLoc ρ ρ1 nm es.length) w') (backLoc ρ ρ1 nm es.length) (backU U nm es.length) x u := by
  -- places
  have hUρ : ∀ k, U k → backLoc ρ ρ1 nm es.length k = ρ k := fun k hk => by
    unfold backLoc
    rw [if_neg (fun hh => hfr k hk ⟨hh.1, by omega⟩)]
  have hUat : ∀ k g o n, ρ k = .at g o n → U k := fun k g o n hk => by
    apply Classical.byContradiction
    intro hn
    rw [hr.deadU hn] at hk; cases hk
  have hcase : ∀ k g o n, backLoc ρ ρ1 nm es.length k = .at g o n → (∃ i, k = nm + i ∧ i < es.length ∧ ρ1 (4 + i) = .at g o n) ∨ ρ k = .at g o n := fun k g o n hk => by
    unfold backLoc at hk
    split at hk
    · rename_i hh
      exact .inl ⟨k - nm, by omega, by omega, hk⟩
    · exact .inr hk
  have hoff : ∀ i g o n, i < es.length → ρ1 (4 + i) = .at g o n → w.heap.size ≤ g ∧ g < w'.heap.size := fun i g o n hi hl => by
    obtain ⟨h1, h2⟩ := hr'.ownl g ⟨_, o, n, hl⟩
    refine ⟨?_, h2⟩
    rcases h1 with h1 | h1
    · obtain ⟨b, o', n', hb⟩ := C'.extl g h1
      obtain ⟨h3, _, _⟩ := hr'.fix b _ hb
      have := hr'.inj (4 + i) b g o n o' n' hl h3
      have := C'.locb b _ hb
      omega
    · rcases h1 with h1 | h1
      · exact (hgv g h1).elim
      · rw [hw0] at h1; exact h1
  have hold : ∀ k g o n, ρ k = .at g o n → g < w.heap.size := fun k g o n hl => (hr.ownl g ⟨k, o, n, hl⟩).2
  have hsz : w.heap.size ≤ w'.heap.size := by have := hr'.size; rw [hw0] at this; exact this
  have hheap : ∀ g, g < w.heap.size → (∀ b ∈ B, ∀ o n, ρ b ≠ .at g o n) → w'.heap[g]? = w.heap[g]? := fun g hg hb => by
    have := hr'.old g (by rw [hw0]; exact hg) (fun he => by
      obtain ⟨b, hbB, o, n, hl⟩ := (hext g).1 he
      exact hb b hbB o n hl) (hgv g)
    rw [hw0] at this; exact this
  have hown : ∀ g, Owned (backLoc ρ ρ1 nm es.length) g → Owned ρ g ∨ (w.heap.size ≤ g ∧ g < w'.heap.size ∧ ∃ i o n, i < es.length ∧ ρ1 (4 + i) = .at g o n) := fun g ⟨k, o, n, hk⟩ => by
    rcases hcase k g o n hk with ⟨i, rfl, hi, hl⟩ | hl
    · have := hoff i g o n hi hl
      exact .inr ⟨this.1, this.2, i, o, n, hi, hl⟩
    · exact .inl ⟨k, o, n, hl⟩
  have hok : ∀ g, okc C ρ w g → okc C (backLoc ρ ρ1 nm es.length) w' g := fun g hg => ⟨hg.1, by have := hg.2.1; omega, fun ho => by
    rcases hown g ho with ho | ho
    · exact hg.2.2 ho
    · have := hg.2.1; omega⟩
  have hokw : ∀ g, okc C ρ w g → w'.heap[g]? = w.heap[g]? := fun g hg => hheap g hg.2.1 fun b _ o n hl => hg.2.2 ⟨b, o, n, hl⟩
  have hlater : Later U ρ (backLoc ρ ρ1 nm es.length) := fun k hk => .inl (hUρ k hk)
  have hUm : ∀ k, U k → backU U nm es.length k := fun k hk => .inl hk
  refine ⟨⟨fun k o hk => ?_, fun k hk => ?_, fun k k' g o n o' n' h1 h2 => ?_, hr'.os.trans (by rw [hw0]; exact hr.os), hr'.tape.trans (by rw [hw0]; exact hr.tape),
    hr'.output.trans (by rw [hw0]; exact hr.output), Nat.le_trans hr.size hsz, fun g hg he hv => ?_, hr.okl, fun g ho => ?_, fun b l hb => ?_⟩,
    fun x u hx => hx.mono hok hokw hUm hlater⟩
  · -- what is known of each name
    rw [get_append, get_obsFrom] at hk
    by_cases hin : nm ≤ k ∧ k < nm + es.length
    · have hi : k - nm < es.length := by omega
      rw [if_pos hin.1, List.getElem?_eq_getElem hi] at hk
      cases hk
      refine ⟨.inr hin, ?_⟩
      have e : backLoc ρ ρ1 nm es.length k = ρ1 (4 + (k - nm)) := by unfold backLoc; rw [if_pos hin]
      rw [e]
      have hg : get (outs bs' es) (4 + (k - nm)) = some es[k - nm] := get_outs_exp (by omega) (List.getElem?_eq_getElem hi)
      obtain ⟨_, ho⟩ := hr'.hp _ _ hg
      have hro := List.all_eq_true.1 hes es[k - nm] (List.getElem_mem hi)
      refine ObR.rowLift hro ?_ ho
      rcases hlift with hlift | hlift
      · exact .inl hlift
      · exact .inr (hlift.2 _ (List.getElem_mem hi))
    · have hno : (if nm ≤ k then es[k - nm]? else none) = none := by
        split
        · exact List.getElem?_eq_none (by omega)
        · rfl
      rw [hno] at hk
      simp only [get_append] at hk
      have e : backLoc ρ ρ1 nm es.length k = ρ k := by unfold backLoc; rw [if_neg hin]
      rw [e]
      cases hbx : get (boxesAt B cs) k with
      | some o' =>
        rw [hbx] at hk; cases hk
        obtain ⟨i, c2, h1, h2, rfl⟩ := get_boxesAt B cs k _ hbx
        obtain ⟨cs0, hb0⟩ := hB k (List.mem_of_getElem? h1)
        have hUk := (hr.hp k _ hb0).1
        refine ⟨.inl hUk, ?_⟩
        obtain ⟨c1, hc1, hrl⟩ := hrel i c2 h2
        have hg : get (outs bs' es) i = some (.box c1) := get_outs_box hc1
        obtain ⟨_, ho⟩ := hr'.hp i _ hg
        have hl := (hr'.fix i (ρ k) (by rw [hloc, h1]; rfl)).1
        rw [hl] at ho
        obtain ⟨g, o, n, e, cells, h3, h4, h5, h6, h7⟩ := ho
        obtain ⟨hal, hag⟩ := argsR_get c1 c2 hrl
        refine ⟨g, o, n, e, cells, h3, h4, h5, by omega, fun j c hj => ?_⟩
        obtain ⟨x, hx⟩ : ∃ x, c1[j]? = some x := ⟨_, List.getElem?_eq_getElem (by rw [hal]; exact (List.getElem?_eq_some_iff.1 hj).1)⟩
        obtain ⟨y, hy, hxy⟩ := hag j x hx
        rw [hj] at hy; cases hy
        obtain ⟨u, hu, hv⟩ := h7 j x hx
        refine ⟨u, hu, ?_⟩
        rcases hxy with ⟨k', j', b, rfl, hk', rfl⟩ | ⟨rfl, hp⟩
        · obtain ⟨_, a, rfl, had⟩ := hv.ptr_inv
          obtain ⟨csb, hbb⟩ := hB b (List.mem_of_getElem? hk')
          have hUb := (hr.hp b _ hbb).1
          have hlb := (hr'.fix k' (ρ b) (by rw [hloc, hk']; rfl)).1
          refine .ptr a (.inl hUb) ?_
          rw [hUρ b hUb, ← hlb]
          exact had
        · rcases hlift with hlift | hlift
          · exact .p ((VP_of_pure hv hp).mono hlift (fun _ _ => rfl))
          · rw [hlift.1] at hc1; simp at hc1
      | none =>
        rw [hbx] at hk
        simp only at hk
        obtain ⟨hUk, ho⟩ := hr.hp k o hk
        refine ⟨.inl hUk, ObR.mono hok hokw hUm hlater (fun g o n hl => hheap g (hold k g o n hl) fun b hb o' n' hb' => ?_) ho⟩
        have := hr.inj k b g o n o' n' hl hb'
        subst this
        exact get_boxesAt_none B cs k hbx (hlen.symm.trans hlc) hb
  · rw [get_append, get_obsFrom] at hk
    have hin : ¬ (nm ≤ k ∧ k < nm + es.length) := fun hh => by
      rw [if_pos hh.1, List.getElem?_eq_getElem (show k - nm < es.length by omega)] at hk
      cases hk
    have hno : (if nm ≤ k then es[k - nm]? else none) = none := by
      split
      · exact List.getElem?_eq_none (by omega)
      · rfl
    rw [hno] at hk
    simp only [get_append] at hk
    unfold backLoc
    rw [if_neg hin]
    cases hbx : get (boxesAt B cs) k with
    | some o' => rw [hbx] at hk; cases hk
    | none => rw [hbx] at hk; exact hr.hd k hk
  · rcases hcase k g o n h1 with ⟨i, rfl, hi, hl⟩ | hl <;> rcases hcase k' g o' n' h2 with ⟨i', rfl, hi', hl'⟩ | hl'
    · have := hr'.inj _ _ g o n o' n' hl hl'
      omega
    · have := hoff i g o n hi hl
      have := hold _ g o' n' hl'
      omega
    · have := hoff i' g o' n' hi' hl'
      have := hold _ g o n hl
      omega
    · exact hr.inj _ _ g o n o' n' hl hl'
  · have hg' : g < w.heap.size := Nat.lt_of_lt_of_le hg hr.size
    rw [← hr.old g hg he hv]
    refine hheap g hg' fun b hb o n hl => ?_
    rcases (hr.ownl g ⟨b, o, n, hl⟩).1 with h1 | h1
    · exact he h1
    · rcases h1 with h1 | h1
      · exact hv h1
      · omega
  · rcases hown g ho with ho | ho
    · exact ⟨(hr.ownl g ho).1, by have := (hr.ownl g ho).2; omega⟩
    · exact ⟨.inr (.inr (by have := hr.size; omega)), ho.2.1⟩
  · obtain ⟨h1, h2, cs0, h3⟩ := hr.fix b l hb
    refine ⟨by rw [hUρ b h2]; exact h1, .inl h2, ?_⟩
    have hin : ¬ (nm ≤ b ∧ b < nm + es.length) := fun hh => hfr b h2 ⟨hh.1, by omega⟩
    have hno : (if nm ≤ b then es[b - nm]? else none) = none := by
      split
      · exact List.getElem?_eq_none (by omega)
      · rfl
    rw [get_append, get_obsFrom, hno]
    simp only [get_append]
    cases hbx : get (boxesAt B cs) b with
    | some o' =>
      obtain ⟨i, cs', _, _, rfl⟩ := get_boxesAt B cs b _ hbx
      exact ⟨cs', rfl⟩
    | none => exact ⟨cs0, h3⟩
def Fn (P : Program) (f : FuncId) (xs : List AV) (bs : List (List AV)) (r : AV) (bs' : List (List AV)) (es : List Ob) : Prop :=
  Enters P f ∧ ∀ (C : Ctx) (ρ : Nat → Loc) (U : Nat → Prop) (w : World) (vals : Array Value), HR C ρ U (boxesFrom 0 bs) w → (∀ b, U b → b < 4) → VL w (okc C ρ w) ρ U xs vals →
    Calls P f vals w fun e w' => ∃ v ρ' U', e = .returned v ∧ HR C ρ' U' (outs bs' es) w' ∧ VR w' (okc C ρ' w') ρ' U' r v
structure FnOk (P : Program) (f : FuncId) (sc : SCode) (res : List SRes) (nt : Nat) : Prop where
  fn : ∃ fn c, P.funcs[f]? = some fn ∧ (fn.name == "runtime.NumGoroutine") = false ∧ fn.body = some c ∧ stripCode P c = some sc ∧ stripRes P fn.results.toList = some res ∧
    fn.results.toList.length ≤ 5 ∧ fn.ntmps = nt
  ok : okCode nt sc = true
  mixed : P.follows .mixedOrders = true
def tFrom : Nat → List AV → List (Nat × AV)
  | _, [] => []
  | k, x :: l => (k, x) :: tFrom (k + 1) l
theorem get_tFrom : ∀ (l : List AV) (k j : Nat), get (tFrom k l) j = if k ≤ j then l[j - k]? else none
  | [], k, j => by simp [tFrom]
  | o :: l, k, j => by
    simp only [tFrom, get]
    by_cases e : k = j
    · subst e; simp
    · rw [if_neg e, get_tFrom l (k + 1) j]
      by_cases h : k ≤ j
      · rw [if_pos h, if_pos (show k + 1 ≤ j by omega)]
        have : j - k = (j - (k + 1)) + 1 := by omega
        rw [this, List.getElem?_cons_succ]
      · rw [if_neg h, if_neg (by omega)]
def Fin (res : List SRes) (r : AV) (bs' : List (List AV)) (es : List Ob) (t : List (Nat × AV)) (h : List (Nat × Ob)) : Prop :=
  ∃ S N xs, retV t h res = some xs ∧ okS h S N (outs bs' es) = true ∧ rvH h S N (outs bs' es) S ∧ rvN (outs bs' es) N ∧ rv h S N r (retOne xs)
def finQ (res : List SRes) (r : AV) (bs' : List (List AV)) (es : List Ob) : Exit → St → Prop
  | .normal, s => Fin res r bs' es s.t s.h
  | .ret, s => Fin res r bs' es s.t s.h
  | _, _ => False
theorem Fn.of_go {P : Program} {f : FuncId} {sc : SCode} {res : List SRes} {nt : Nat} (hok : FnOk P f sc res nt) {xs : List AV} {bs : List (List AV)} {r : AV} {bs' : List (List AV)} {es : List Ob}
    (hn : xs.length ≤ nt) (hgo : go P [.code sc] (finQ res r bs' es) 8 (tFrom 0 xs) (boxesFrom 0 bs)) : Fn P f xs bs r bs' es := by
  obtain ⟨⟨fn, c, hf, hnm, hb, hs, hres, hr4, rfl⟩, hoc, hm⟩ := hok
  refine ⟨⟨fn, hf, hnm, by rw [hb]; rfl⟩, fun C ρ U w vals hr hU hv => ?_⟩
  let C1 : Ctx := { C with nt := fn.ntmps }
  have hr1 : HR C1 ρ U (boxesFrom 0 bs) w := ⟨hr.hp, hr.hd, hr.inj, hr.os, hr.tape, hr.output, hr.size, hr.old, hr.okl, hr.ownl, hr.fix⟩
  refine calls_of_wp hf hb (wpc_sound (C := C1) hm c sc hs hoc _ _ ⟨8, tFrom 0 xs, boxesFrom 0 bs⟩ _ w ⟨ρ, U, ⟨hr1, fun k x hk => ?_, rfl, ?_⟩, fun b hb => by have := hU b hb; simp only; omega⟩ hgo fun e s a w' hA hQ => ?_)
  · rw [get_tFrom] at hk
    simp only [Nat.zero_le, if_true, Nat.sub_zero] at hk
    have hlt : k < vals.size := by rw [← hv.1]; exact (List.getElem?_eq_some_iff.1 hk).1
    refine ⟨vals[k], ?_, hv.2 k x _ hk (Array.getElem?_eq_getElem hlt)⟩
    simp [Array.getElem?_append, hlt]
  · have := hv.1
    simp only [Array.size_append, Array.size_replicate]
    show _ = fn.ntmps
    omega
  · have fin : Fin res r bs' es s.t s.h → a.defers = [] ∧ ∃ v, (results fn a.tmps).run P w' = .ok v w' ∧ ∃ v_1 ρ' U', Ending.returned v = Ending.returned v_1 ∧ HR C ρ' U' (outs bs' es) w' ∧ VR w' (okc C ρ' w') ρ' U' r v_1 := fun hF => by
      obtain ⟨S, N, ys, h1, h2, h3, h4, h5⟩ := hF
      obtain ⟨ρ1, U1, hS, _⟩ := hA
      obtain ⟨vs, h6, h7, h8, h9⟩ := retV_ok (P := P) hS.hr hS.tm fn.results.toList res ys hres h1
      refine ⟨hS.defers, _, results_eq a.tmps w' rfl h6 hr4 h8, _, newLoc ρ1 S N, newU S N, rfl, ?_, ?_⟩
      · have := rv_hr hS.hr h2 h3 h4
        exact ⟨this.hp, this.hd, this.inj, this.os, this.tape, this.output, this.size, this.old, this.okl, this.ownl, this.fix⟩
      · exact rv_vr hS.hr (retOne_ok (by omega) h9) r h5
    cases e with
    | normal => exact fin hQ
    | ret => exact fin hQ
    | exit i => exact hQ.elim
    | goto l => exact hQ.elim
    | panic ch => exact hQ.elim
    | outgrown => exact hQ.elim
end
end Go.Eng

namespace Go.Eng
open Go
def boxesR (h : List (Nat × Ob)) (A : List Nat) : List Nat → List (List AV) → Prop
  | [], [] => True
  | b :: B, cs :: bs => (match get h b with
    | some (.box cs') => argsR A cs cs'
    | _ => False) ∧ boxesR h A B bs
  | _, _ => False
def argsLL (A : List Nat) : List (List AV) → List (List AV) → Prop
  | [], [] => True
  | x :: l, y :: l' => argsR A x y ∧ argsLL A l l'
  | _, _ => False
theorem argsLL_get {A : List Nat} : ∀ (xs ys : List (List AV)), argsLL A xs ys → xs.length = ys.length ∧ ∀ (i : Nat) (y : List AV), ys[i]? = some y → ∃ x, xs[i]? = some x ∧ argsR A x y
  | [], [], _ => ⟨rfl, fun i b h => by simp at h⟩
  | x :: xs, y :: ys, h => by
    simp only [argsLL] at h
    obtain ⟨h1, h2⟩ := argsLL_get xs ys h.2
    refine ⟨by simp [h1], fun i c hc => ?_⟩
    cases i with
    | zero => simp at hc; subst hc; exact ⟨x, rfl, h.1⟩
    | succ i => simpa using h2 i c (by simpa using hc)
  | [], _ :: _, h => by simp [argsLL] at h
  | _ :: _, [], h => by simp [argsLL] at h
def pureLL : List (List AV) → Bool
  | [] => true
  | cs :: l => pureL cs && pureLL l
theorem boxesR_get {h : List (Nat × Ob)} {A : List Nat} : ∀ (B : List Nat) (bs : List (List AV)), boxesR h A B bs → B.length = bs.length ∧ ∀ (i b : Nat), B[i]? = some b → ∃ cs cs', bs[i]? = some cs ∧ get h b = some (.box cs') ∧ argsR A cs cs'
  | [], [], _ => ⟨rfl, fun i b h => by simp at h⟩
  | b :: B, cs :: bs, h => by
    simp only [boxesR] at h
    obtain ⟨h1, h2⟩ := boxesR_get B bs h.2
    refine ⟨by simp [h1], fun i c hc => ?_⟩
    cases i with
    | zero =>
      simp at hc; subst hc
      obtain ⟨h3, _⟩ := h
      split at h3
      · rename_i cs' hg; exact ⟨cs, cs', rfl, hg, h3⟩
      · exact h3.elim
    | succ i => simpa using h2 i c (by simpa using hc)
  | [], _ :: _, h => by simp [boxesR] at h
  | _ :: _, [], h => by simp [boxesR] at h
section
variable {P : Program} {f : FuncId} {xs ys : List AV} {bs bs' : List (List AV)} {r : AV} {es : List Ob} {nm : Nat} {h : List (Nat × Ob)} {B : List Nat}
def atB (ρ : Nat → Loc) (B : List Nat) (i : Nat) : Loc := match B[i]? with
  | some b => ρ b
  | none => .dead
theorem Fn.callD (hF : Fn P f xs bs r bs' es) (nm : Nat) (B : List Nat) (cs' : List (List AV)) (ha : argsR B xs ys) (hb : boxesR h B B bs) (hB4 : B.length ≤ 4) (hnd : B.Nodup) (hlen : bs'.length = B.length) (hp : argsLL B bs' cs')
    (hes : es.all rowOk = true) (hm : es.length ≤ 8) (hx : expA es.length r = true) :
    CallD P nm f ys h ⟨sh nm r, obsFrom nm es ++ boxesAt B cs', B⟩ := by
  intro h' hh' Q hQ
  refine ⟨hF.1, fun C ρ U w vals hr hfr hvl => ?_⟩
  obtain ⟨hl, hb'⟩ := boxesR_get B bs hb
  have hbx : ∀ (i b : Nat), B[i]? = some b → ∃ cs cs', bs[i]? = some cs ∧ get h' b = some (.box cs') ∧ argsR B cs cs' := fun i b hib => by
    obtain ⟨cs, cs', h1, h2, h3⟩ := hb' i b hib
    exact ⟨cs, cs', h1, by rw [hh' b (List.mem_of_getElem? hib)]; exact h2, h3⟩
  let C' : Ctx := ⟨w, okc C ρ w, (fun g => ∃ b ∈ B, ∃ o n, ρ b = Loc.at g o n), (fun i => (B[i]?).map ρ), 0, (fun g hg => by
      obtain ⟨b, hbB, o, n, hl⟩ := hg
      obtain ⟨i, hi⟩ := List.mem_iff_getElem?.1 hbB
      exact ⟨i, o, n, by simp [hi, hl]⟩), (fun i l hl => by
      rcases Nat.lt_or_ge i B.length with h1 | h1
      · omega
      · simp [List.getElem?_eq_none h1] at hl), (fun _ => False), (fun _ h => h.elim)⟩
  have hbl : ∀ (i b : Nat), B[i]? = some b → atB ρ B i = ρ b := fun i b hib => by simp [atB, hib]
  have hown : ∀ g, Owned (atB ρ B) g → ∃ b ∈ B, ∃ o n, ρ b = .at g o n := fun g ⟨i, o, n, hi⟩ => by
    unfold atB at hi
    split at hi
    · rename_i b hib; exact ⟨b, List.mem_of_getElem? hib, o, n, hi⟩
    · cases hi
  have hok : ∀ g, okc C ρ w g → okc C' (atB ρ B) w g := fun g hg => ⟨.inl hg, hg.2.1, fun ho => by
    obtain ⟨b, _, o, n, hb⟩ := hown g ho
    exact hg.2.2 ⟨b, o, n, hb⟩⟩
  have hpure : ∀ {x : AV} {u : Value}, x.pure = true → VR w (okc C ρ w) ρ U x u → VP w (okc C' (atB ρ B) w) x u := fun hx hv => (VP_of_pure hv hx).mono hok (fun _ _ => rfl)
  have hr0 : HR C' (atB ρ B) (fun i => i < B.length) (boxesFrom 0 bs) w := by
    refine ⟨fun i o hi => ?_, fun i hi => ?_, fun i i' g o n o' n' h1 h2 => ?_, rfl, rfl, rfl, Nat.le_refl _, fun g _ _ _ => rfl, fun g hg => ⟨hg.2.1, fun ⟨b, _, o, n, hb⟩ => hg.2.2 ⟨b, o, n, hb⟩, fun h => h⟩,
      fun g ho => ?_, fun i l hi => ?_⟩
    · simp only [boxesFrom, get_obsFrom, Nat.zero_le, if_true, Nat.sub_zero, List.getElem?_map] at hi
      have hlt : i < B.length := by
        rcases Nat.lt_or_ge i B.length with h1 | h1
        · exact h1
        · rw [List.getElem?_eq_none (by omega)] at hi; cases hi
      refine ⟨hlt, ?_⟩
      have hib : B[i]? = some B[i] := List.getElem?_eq_getElem hlt
      obtain ⟨cs, cs1, h1, h2, h3⟩ := hbx i _ hib
      rw [h1] at hi
      cases hi
      rw [hbl i _ hib]
      obtain ⟨_, g, o, n, e, cells, h4, h5, h6, h7, h8⟩ := hr.hp _ _ h2
      obtain ⟨hal, hag⟩ := argsR_get cs cs1 h3
      refine ⟨g, o, n, e, cells, h4, h5, h6, by omega, fun j c hj => ?_⟩
      obtain ⟨y, hy, hxy⟩ := hag j c hj
      obtain ⟨u, hu, hv⟩ := h8 j y hy
      refine ⟨u, hu, ?_⟩
      rcases hxy with ⟨k, j', b, rfl, hk, rfl⟩ | ⟨rfl, hp⟩
      · obtain ⟨_, a, rfl, had⟩ := hv.ptr_inv
        have hlt : k < B.length := (List.getElem?_eq_some_iff.1 hk).1
        exact .ptr a hlt (by rw [hbl k b hk]; exact had)
      · exact .p (hpure hp hv)
    · simp only [boxesFrom, get_obsFrom, Nat.zero_le, if_true, Nat.sub_zero, List.getElem?_map] at hi
      have : B[i]? = none := by
        rcases Nat.lt_or_ge i B.length with h1 | h1
        · rw [List.getElem?_eq_getElem (show i < bs.length by omega)] at hi; cases hi
        · exact List.getElem?_eq_none h1
      simp [atB, this]
    · have key : ∀ i g o n, atB ρ B i = .at g o n → ∃ b, B[i]? = some b ∧ ρ b = .at g o n := fun i g o n hi => by
        unfold atB at hi
        split at hi
        · rename_i b hib; exact ⟨b, hib, hi⟩
        · cases hi
      obtain ⟨b, hib, hl1⟩ := key i g o n h1
      obtain ⟨b', hib', hl2⟩ := key i' g o' n' h2
      have e := hr.inj b b' g o n o' n' hl1 hl2
      subst e
      obtain ⟨p1, q1⟩ := List.getElem?_eq_some_iff.1 hib
      obtain ⟨p2, q2⟩ := List.getElem?_eq_some_iff.1 hib'
      exact (List.getElem_inj hnd).1 (q1.trans q2.symm)
    · obtain ⟨b, hbB, o, n, hb⟩ := hown g ho
      exact ⟨.inl ⟨b, hbB, o, n, hb⟩, (hr.ownl g ⟨b, o, n, hb⟩).2⟩
    · have hlt : i < B.length := by
        rcases Nat.lt_or_ge i B.length with h1 | h1
        · exact h1
        · simp [C', List.getElem?_eq_none h1] at hi
      have hib : B[i]? = some B[i] := List.getElem?_eq_getElem hlt
      obtain ⟨cs, cs1, h1, h2, h3⟩ := hbx i _ hib
      refine ⟨?_, hlt, cs, ?_⟩
      · rw [hbl i _ hib]
        simp only [C', hib, Option.map_some, Option.some.injEq] at hi
        exact hi
      · simp [boxesFrom, get_obsFrom, h1]
  obtain ⟨hal, hag⟩ := argsR_get xs ys ha
  have hvl0 : VL w (okc C' (atB ρ B) w) (atB ρ B) (fun i => i < B.length) xs vals := by
    refine ⟨by rw [hal]; exact hvl.1, fun i x u hi hu => ?_⟩
    obtain ⟨y, hy, hxy⟩ := hag i x hi
    have hv := hvl.2 i y u hy hu
    rcases hxy with ⟨k, j, b, rfl, hk, rfl⟩ | ⟨rfl, hp⟩
    · obtain ⟨_, a, rfl, had⟩ := hv.ptr_inv
      have hlt : k < B.length := (List.getElem?_eq_some_iff.1 hk).1
      exact .ptr a hlt (by rw [hbl k b hk]; exact had)
    · exact .p (hpure hp hv)
  refine (hF.2 C' (atB ρ B) (fun i => i < B.length) w vals hr0 (fun b hb => by omega) hvl0).mono fun e w' hpost => ?_
  obtain ⟨v, ρ1, U1, rfl, hr1, hv1⟩ := hpost
  have hlift : ∀ g, okc C' ρ1 w' g → okc C (backLoc ρ ρ1 nm es.length) w' g := fun g hg => by
    have hno : ¬ ∃ i o n, i < es.length ∧ ρ1 (4 + i) = .at g o n := fun ⟨i, o, n, _, hi⟩ => hg.2.2 ⟨_, o, n, hi⟩
    have hcase : Owned (backLoc ρ ρ1 nm es.length) g → Owned ρ g := fun ⟨k, o, n, hk⟩ => by
      unfold backLoc at hk
      split at hk
      · exact absurd ⟨k - nm, o, n, by omega, hk⟩ hno
      · exact ⟨k, o, n, hk⟩
    refine ⟨?_, hg.2.1, fun ho => ?_⟩
    · rcases hg.1 with h1 | h1
      · exact h1.1
      · right; have := hr.size; exact .inr (Nat.le_trans this (h1.resolve_left fun h => h))
    · have ho' := hcase ho
      rcases hg.1 with h1 | h1
      · exact h1.2.2 ho'
      · have := (hr.ownl g ho').2
        have h1' : w.heap.size ≤ g := h1.resolve_left fun h => h
        omega
  obtain ⟨hR, hkeep⟩ := back (C' := C') (nm := nm) hr rfl (fun g => Iff.rfl) (fun i => rfl) hr1 (fun b hb => by
    obtain ⟨i, hi⟩ := List.mem_iff_getElem?.1 hb
    obtain ⟨_, cs, _, h2, _⟩ := hbx i b hi
    exact ⟨cs, h2⟩) hlen hB4 hes hm (argsLL_get bs' cs' hp).1 (argsLL_get bs' cs' hp).2 hfr (fun _ h => h) (.inl hlift)
  refine ⟨v, sh nm r, _, backLoc ρ ρ1 nm es.length, backU U nm es.length, rfl, hR, ?_, hkeep, fun b hb => ?_, ?_⟩
  · refine VR.sh hlift (fun i hi => ?_) (fun i hi => .inr ⟨by omega, by omega⟩) hv1 hx
    unfold backLoc
    rw [if_pos ⟨by omega, by omega⟩]
    congr 2; omega
  · rcases hb with hb | hb
    · exact .inl hb
    · exact .inr ⟨hb.1, by omega⟩
  · simpa [List.append_assoc] using hQ
theorem CallD.use {ys : List AV} {x : Rec} (hc : CallD P nm f ys h x) {Q : AV → List (Nat × Ob) → Prop} (hQ : Q x.val (x.upd ++ h)) : wpCall P nm f ys h Q := hc h (fun _ _ => rfl) Q hQ
mutual
def deep : AV → List Nat
  | .own b _ _ _ => [b]
  | .ptr b _ => [b]
  | .rp b _ _ _ => [b]
  | .mp b => [b]
  | .agg cs => deepL cs
  | .tup cs => deepL cs
  | .fn _ cs => deepL cs
  | _ => []
def deepL : List AV → List Nat
  | [] => []
  | c :: cs => deep c ++ deepL cs
end
mutual
theorem rv_congr {h h' : List (Nat × Ob)} : ∀ (x y : AV), (∀ b ∈ deep y, get h' b = get h b) → rv h [] [] x y → rv h' [] [] x y
  | .own .., y, _, hx => by unfold rv at hx ⊢; exact hx
  | .ptr .., y, _, hx => by unfold rv at hx ⊢; exact hx
  | .rp .., y, _, hx => by unfold rv at hx ⊢; exact hx
  | .mp .., y, _, hx => by unfold rv at hx ⊢; exact hx
  | .v _, y, _, hx => by unfold rv at hx ⊢; exact hx
  | .sl sz ys, y, hh, hx => by
    cases y with
    | own b sz' off len =>
      simp only [deep, List.mem_singleton, forall_eq] at hh
      simp only [rv, hh] at hx ⊢; exact hx
    | v a =>
      unfold rv at hx ⊢
      split at hx
      · rename_i e; cases e
      · rename_i e; cases e; exact hx
      · rename_i e; cases e
      · exact hx.elim
    | _ => simp only [rv] at hx ⊢ <;> exact hx
  | .pel cs j, y, hh, hx => by
    cases y with
    | rp b sz i j' =>
      simp only [deep, List.mem_singleton, forall_eq] at hh
      simp only [rv, hh] at hx ⊢; exact hx
    | _ => simp only [rv] at hx ⊢ <;> exact hx
  | .agg ys, y, hh, hx => by
    cases y <;> unfold rv at hx ⊢ <;> try exact hx
    exact rvL_congr ys _ (by simpa only [deep] using hh) hx
  | .tup ys, y, hh, hx => by
    cases y <;> unfold rv at hx ⊢ <;> try exact hx
    exact rvL_congr ys _ (by simpa only [deep] using hh) hx
  | .fn f ys, y, hh, hx => by
    cases y <;> unfold rv at hx ⊢ <;> try exact hx
    exact ⟨hx.1, rvL_congr ys _ (by simpa only [deep] using hh) hx.2⟩
theorem rvL_congr {h h' : List (Nat × Ob)} : ∀ (xs ys : List AV), (∀ b ∈ deepL ys, get h' b = get h b) → rvL h [] [] xs ys → rvL h' [] [] xs ys
  | [], [], _, _ => by simp only [rvL]
  | x :: xs, y :: ys, hh, hx => by
    simp only [rvL] at hx ⊢
    simp only [deepL, List.mem_append] at hh
    exact ⟨rv_congr x y (fun b hb => hh b (.inl hb)) hx.1, rvL_congr xs ys (fun b hb => hh b (.inr hb)) hx.2⟩
  | [], _ :: _, _, hx => by simp only [rvL] at hx
  | _ :: _, [], _, hx => by simp only [rvL] at hx
end
theorem rvL_vl {C : Ctx} {ρ : Nat → Loc} {U : Nat → Prop} {w : World} {vals : Array Value} (hr : HR C ρ U h w) (hv : VL w (okc C ρ w) ρ U ys vals) (hx : rvL h [] [] xs ys) :
    VL w (okc C (newLoc ρ [] []) w) (newLoc ρ [] []) (newU [] []) xs vals := by
  have hl := rvL_len _ _ hx
  refine ⟨by rw [hl]; exact hv.1, fun i x u hi hu => ?_⟩
  obtain ⟨y, hy, hxy⟩ := rvL_get _ _ hx i x hi
  exact rv_vr hr (hv.2 i y u hy hu) x hxy
theorem Fn.callS (hF : Fn P f xs [] r [] es) (nm : Nat) (ha : rvL h [] [] xs ys) (hes : es.all rowOk = true) (hna : ∀ o ∈ es, rowNa o) (hm : es.length ≤ 8) (hx : expA es.length r = true) (hr0 : na r = true) :
    CallD P nm f ys h ⟨sh nm r, obsFrom nm es, deepL ys⟩ := by
  intro h' hh' Q hQ
  refine ⟨hF.1, fun C ρ U w vals hr hfr hvl => ?_⟩
  have ha' := rvL_congr xs ys hh' ha
  have hd : ∀ g, ¬ Owned (newLoc ρ [] []) g := fun g ⟨k, o, n, hk⟩ => by simp [newLoc, get] at hk
  let C' : Ctx := ⟨w, okc C (newLoc ρ [] []) w, (fun _ => False), (fun _ => none), 0, (fun g hg => hg.elim), (fun i l hl => by cases hl), (fun _ => False), (fun _ h => h.elim)⟩
  have hok : ∀ g, okc C (newLoc ρ [] []) w g → okc C' (newLoc ρ [] []) w g := fun g hg => ⟨.inl hg, hg.2.1, hg.2.2⟩
  have hrc : HR C' (newLoc ρ [] []) (newU [] []) (boxesFrom 0 []) w := by
    refine ⟨fun i o hi => by simp [boxesFrom, obsFrom, get] at hi, fun i _ => by simp [newLoc, get], fun i i' g o n o' n' h1 _ => absurd ⟨i, o, n, h1⟩ (hd g), rfl, rfl, rfl, Nat.le_refl _,
      fun g _ _ _ => rfl, fun g hg => ⟨hg.2.1, fun h => h.elim, fun h => h⟩, fun g ho => absurd ho (hd g), fun i l hi => by cases hi⟩
  have hvl0 := rvL_vl hr hvl ha'
  have hvl1 : VL w (okc C' (newLoc ρ [] []) w) (newLoc ρ [] []) (newU [] []) xs vals := hvl0.mono hok (fun _ _ => rfl) (fun _ h => h) (fun _ _ => .inl rfl)
  refine (hF.2 C' _ _ w vals hrc (fun b hb => by simp [newU] at hb) hvl1).mono fun e w' hpost => ?_
  obtain ⟨v, ρ1, U1, rfl, hr1, hv1⟩ := hpost
  obtain ⟨hR, hkeep⟩ := back (C' := C') (B := []) (nm := nm) hr rfl (fun g => by simp [C']) (fun i => by simp [C']) hr1 (fun b hb => by simp at hb) rfl (by simp) hes hm (cs := []) rfl (fun i cs h => by simp at h) hfr (fun _ h => h) (.inr ⟨rfl, hna⟩)
  refine ⟨v, sh nm r, _, backLoc ρ ρ1 nm es.length, backU U nm es.length, rfl, hR, ?_, hkeep, fun b hb => ?_, ?_⟩
  · refine VR.sh_na (fun i hi => ?_) (fun i hi => .inr ⟨by omega, by omega⟩) hv1 hx hr0
    unfold backLoc
    rw [if_pos ⟨by omega, by omega⟩]
    congr 2; omega
  · rcases hb with hb | hb
    · exact .inl hb
    · exact .inr ⟨hb.1, by omega⟩
  · simpa [boxesAt] using hQ
mutual
theorem rv_pure {S : List (Nat × Nat)} {N : List Nat} : ∀ (x : AV), x.pure = true → rv h S N x x
  | .v a, _ => by simp only [rv]
  | .sl sz xs, _ => by simp only [rv, and_self]
  | .pel cs j, _ => by simp only [rv, and_self]
  | .agg cs, hx => by simp only [rv]; exact rvL_pure cs (by simpa only [AV.pure] using hx)
  | .tup cs, hx => by simp only [rv]; exact rvL_pure cs (by simpa only [AV.pure] using hx)
  | .fn f cs, hx => by simp only [rv, true_and]; exact rvL_pure cs (by simpa only [AV.pure] using hx)
  | .own .., hx => by simp [AV.pure] at hx
  | .ptr .., hx => by simp [AV.pure] at hx
  | .rp .., hx => by simp [AV.pure] at hx
  | .mp .., hx => by simp [AV.pure] at hx
theorem rvL_pure {S : List (Nat × Nat)} {N : List Nat} : ∀ (xs : List AV), pureL xs = true → rvL h S N xs xs
  | [], _ => by simp only [rvL]
  | x :: xs, hx => by
    simp only [pureL, Bool.and_eq_true] at hx
    simp only [rvL]
    exact ⟨rv_pure x hx.1, rvL_pure xs hx.2⟩
end
theorem rv_eq {S : List (Nat × Nat)} {N : List Nat} {x y : AV} (he : x = y) (hp : y.pure = true) : rv h S N x y := he ▸ rv_pure _ (he ▸ hp)
theorem Fin.mk0 {res : List SRes} {r : AV} {t : List (Nat × AV)} (xs : List AV) (h1 : retV t h res = some xs) (h2 : okS h [] [] [] = true) (h3 : rv h [] [] r (retOne xs)) : Fin res r [] [] t h :=
  ⟨[], [], xs, h1, h2, by simp only [rvH], by simp only [rvN], h3⟩
theorem Fin.eq0 {res : List SRes} {r : AV} {t : List (Nat × AV)} (xs : List AV) (h1 : retV t h res = some xs) (h2 : okS h [] [] [] = true) (h3 : (retOne xs).pure = true) (h4 : r = retOne xs) : Fin res r [] [] t h :=
  Fin.mk0 xs h1 h2 (rv_eq h4 h3)
theorem sh_pure (nm : Nat) : ∀ (x : AV), x.pure = true → sh nm x = x := by
  intro x
  refine AV.rec (motive_1 := fun x => x.pure = true → sh nm x = x) (motive_2 := fun xs => pureL xs = true → shL nm xs = xs) (motive_3 := fun _ => True)
    ?_ ?_ ?_ ?_ ?_ ?_ ?_ ?_ ?_ ?_ ?_ ?_ ?_ ?_ x
  · intro v _; simp only [sh]
  · intro cs ih hx; simp only [sh]; rw [ih (by simpa only [AV.pure] using hx)]
  · intro cs ih hx; simp only [sh]; rw [ih (by simpa only [AV.pure] using hx)]
  · intro sz xs _ _; simp only [sh]
  · intro b sz off len hx; simp [AV.pure] at hx
  · intro b j hx; simp [AV.pure] at hx
  · intro b sz k j hx; simp [AV.pure] at hx
  · intro cs j _ _; simp only [sh]
  · intro b hx; simp [AV.pure] at hx
  · intro f cs ih hx; simp only [sh]; rw [ih (by simpa only [AV.pure] using hx)]
  · intro _; simp only [shL]
  · intro c cs ih1 ih2 hx
    simp only [pureL, Bool.and_eq_true] at hx
    simp only [shL]; rw [ih1 hx.1, ih2 hx.2]
  · trivial
  · intros; trivial
mutual
theorem expA_pure {m : Nat} : ∀ (x : AV), x.pure = true → expA m x = true
  | .v a, _ => by simp only [expA]
  | .sl sz xs, _ => by simp only [expA]
  | .pel cs j, _ => by simp only [expA]
  | .agg cs, hx => by simp only [expA]; exact expL_pure cs (by simpa only [AV.pure] using hx)
  | .tup cs, hx => by simp only [expA]; exact expL_pure cs (by simpa only [AV.pure] using hx)
  | .fn f cs, hx => by simp only [expA]; exact expL_pure cs (by simpa only [AV.pure] using hx)
  | .own .., hx => by simp [AV.pure] at hx
  | .ptr .., hx => by simp [AV.pure] at hx
  | .rp .., hx => by simp [AV.pure] at hx
  | .mp .., hx => by simp [AV.pure] at hx
theorem expL_pure {m : Nat} : ∀ (xs : List AV), pureL xs = true → expL m xs = true
  | [], _ => by simp only [expL]
  | x :: xs, hx => by
    simp only [pureL, Bool.and_eq_true] at hx
    simp only [expL, Bool.and_eq_true]
    exact ⟨expA_pure x hx.1, expL_pure xs hx.2⟩
end
theorem argsR_pure {A : List Nat} : ∀ (xs : List AV), pureL xs = true → argsR A xs xs
  | [], _ => by simp only [argsR]
  | x :: xs, hx => by
    simp only [pureL, Bool.and_eq_true] at hx
    simp only [argsR]
    refine ⟨?_, argsR_pure xs hx.2⟩
    split
    · simp [AV.pure] at hx
    · exact ⟨rfl, hx.1⟩
theorem argsLL_pure {A : List Nat} : ∀ (l : List (List AV)), pureLL l = true → argsLL A l l
  | [], _ => by simp only [argsLL]
  | x :: xs, hx => by
    simp only [pureLL, Bool.and_eq_true] at hx
    simp only [argsLL]
    exact ⟨argsR_pure x hx.1, argsLL_pure xs hx.2⟩
theorem Fn.call0 (hF : Fn P f xs [] r [] []) (hp : pureL xs = true) (hr : r.pure = true) : CallD P nm f xs h ⟨r, [], []⟩ := by
  have := hF.callD (h := h) nm [] [] (argsR_pure xs hp) (by simp only [boxesR]) (by simp) (by simp) rfl (by simp only [argsLL]) rfl (by simp) (expA_pure r hr)
  rw [sh_pure nm r hr] at this
  exact this
theorem Fin.mk1 {res : List SRes} {r : AV} {t : List (Nat × AV)} {cs cs' : List AV} (xs : List AV) (h1 : retV t h res = some xs) (hb : get h 0 = some (.box cs)) (h2 : okS h [(0, 0)] [] [(0, .box cs')] = true)
    (h3 : rvL h [(0, 0)] [] cs' cs) (h4 : rv h [(0, 0)] [] r (retOne xs)) : Fin res r [cs'] [] t h := by
  have e : outs [cs'] [] = [(0, .box cs')] := rfl
  refine ⟨[(0, 0)], [], xs, h1, by rw [e]; exact h2, ?_, by simp only [rvN], h4⟩
  rw [e]
  simp only [rvH, get, if_true, hb, and_true, rvO]
  exact h3
theorem Fin.eq1 {res : List SRes} {r : AV} {t : List (Nat × AV)} {cs cs' : List AV} (xs : List AV) (h1 : retV t h res = some xs) (hb : get h 0 = some (.box cs)) (h2 : okS h [(0, 0)] [] [(0, .box cs)] = true)
    (h3 : (retOne xs).pure = true) (h4 : pureL cs = true) (h5 : cs' = cs) (h6 : r = retOne xs) : Fin res r [cs'] [] t h := by
  subst h5
  exact Fin.mk1 xs h1 hb h2 (rvL_pure _ h4) (rv_eq h6 h3)
end
end Go.Eng

namespace Go.Eng
open Go
theorem one_v (x : Value) : (AV.v x).one = x.oneCell' := rfl
theorem one_agg (cs : List AV) : (AV.agg cs).one = false := rfl
theorem one_tup (cs : List AV) : (AV.tup cs).one = false := rfl
theorem one_sl (sz : Nat) (xs : List (List AV)) : (AV.sl sz xs).one = true := rfl
theorem one_own (b sz off len : Nat) : (AV.own b sz off len).one = true := rfl
theorem one_ptr (b j : Nat) : (AV.ptr b j).one = true := rfl
theorem one_rp (b sz k j : Nat) : (AV.rp b sz k j).one = true := rfl
theorem one_pel (cs : List AV) (j : Nat) : (AV.pel cs j).one = true := rfl
theorem one_mp (b : Nat) : (AV.mp b).one = true := rfl
theorem one_fn (f : FuncId) (cs : List AV) : (AV.fn f cs).one = true := rfl
attribute [go_sem] one_v one_agg one_tup one_sl one_own one_ptr one_rp one_pel one_mp one_fn
attribute [go_sem] go_nil go_seq go_skip go_exit go_ret go_blk go_lp goX_blk
attribute [go_sem] goX_ops goX_code goX_lp go_block go_region go_cond goIf_true goIf_false
attribute [go_sem] go_ops_nil go_mov go_pick go_alloc go_box go_build go_bslice go_load
attribute [go_sem] go_store go_nilc go_bin go_eqs go_un go_conv go_s2b go_b2s
attribute [go_sem] go_mkfn go_mkmap go_look go_mput go_mkslice go_slice go_sslice go_faddr
attribute [go_sem] go_fld go_iaddr go_iaddrA go_idx go_idxs go_len go_cap go_app
attribute [go_sem] go_clr go_copy go_ext go_minmax go_isnil goNil_some goNil_any go_appz go_eqb
attribute [go_sem] go_slen go_call go_guard goE_some goC_fn goG_undef goG_tt goG_tf
attribute [go_sem] goG_ft goG_ff goD_mov goD_pick goD_alloc goD_box goD_build goD_bslice
attribute [go_sem] goD_load goD_store goD_nilc goD_bin goD_eqs goD_un goD_conv goD_s2b
attribute [go_sem] goD_b2s goD_mkfn goD_mkmap goD_look goD_mput goD_mkslice goD_slice goD_sslice
attribute [go_sem] goD_faddr goD_fld goD_iaddr goD_iaddrA goD_idx goD_idxs goD_len goD_cap
attribute [go_sem] goD_app goD_clr goD_copy goD_ext goD_minmax goD_appz goD_eqb goD_slen goX_drw
attribute [go_sem] go_region_draw go_drw_nil goED_some goD_call goCD_fn goD_isnil goNilD_some goD_guard
attribute [go_sem] goGD_undef goGD_tt goGD_tf goGD_ft goGD_ff
attribute [go_sem] eff ev evL get E.ok putA cellsA oneL
attribute [go_sem] Value.oneCell' sbin sbinP fillA partsA partsR fillR
attribute [go_sem] splice eqCells pureL AV.pure contentsN lookM putM bound
attribute [go_sem] bytesOf bytesOfL nilK rdOf nmsO AV.nms tFrom boxesFrom
attribute [go_sem] obsFrom boxesAt retV retOne sh shL finQ rvL
attribute [go_sem] outs keep1 argsR boxesR pureLL rvT rvH rvN
attribute [go_sem] rvO expA expL na naL rowOk deep deepL
attribute [go_sem] get_nil
attribute [go_sem] true_and and_true List.append_nil List.nil_append List.cons_append List.length_cons List.length_nil List.map_cons
attribute [go_sem] List.map_nil Bool.and_true Bool.and_self Bool.not_true Bool.not_false Bool.false_eq_true Bool.true_and List.getElem?_cons_zero
attribute [go_sem] List.getElem?_cons_succ Nat.succ_eq_add_one Nat.zero_add Nat.add_zero List.take_zero List.drop_zero List.take_succ_cons List.drop_succ_cons
attribute [go_sem] List.take_nil List.drop_nil
end Go.Eng
