/-
  The engine, part 11: forgetting, renaming, freezing.
  No condition: definitions and lemmas.
-/
import Derived.Test.YteonhcjaekodkaaEng10
set_option linter.all false
namespace Go.Eng
open Go

section
variable (h : List (Nat × Ob)) (S : List (Nat × Nat)) (N : List Nat)

mutual
/-- A value after the turn, and before: names go by S (new, old); names in N are new and hold nothing; rows that S leaves out are read only from now on. -/
def rv : AV → AV → Prop
  | .own k sz off len, y => match y with
    | .own b sz' off' len' => get S k = some b ∧ sz = sz' ∧ off = off' ∧ len = len'
    | .v (.slice none 0 0) => k ∈ N ∧ len = 0
    | _ => False
  | .ptr k j, y => match y with
    | .ptr b j' => get S k = some b ∧ j = j'
    | _ => False
  | .rp k sz i j, y => match y with
    | .rp b sz' i' j' => get S k = some b ∧ sz = sz' ∧ i = i' ∧ j = j'
    | _ => False
  | .mp k, y => match y with
    | .mp b => get S k = some b
    | _ => False
  | .sl sz ys, y => match y with
    | .sl sz' xs => sz = sz' ∧ ys = xs
    | .v (.slice none 0 0) => ys = []
    | .own b sz' off len => b ∉ S.map Prod.snd ∧ sz = sz' ∧ match get h b with
      | some (.row _ sz'' xs) => sz = sz'' ∧ off + len ≤ xs.length ∧ ys = (xs.drop off).take len
      | _ => False
    | _ => False
  | .pel cs j, y => match y with
    | .pel cs' j' => cs = cs' ∧ j = j'
    | .rp b sz' i j' => b ∉ S.map Prod.snd ∧ j = j' ∧ match get h b with
      | some (.row _ sz'' xs) => sz' = sz'' ∧ i < xs.length ∧ cs = nth xs i
      | _ => False
    | _ => False
  | .agg ys, y => match y with
    | .agg xs => rvL ys xs
    | _ => False
  | .tup ys, y => match y with
    | .tup xs => rvL ys xs
    | _ => False
  | .fn f ys, y => match y with
    | .fn g xs => f = g ∧ rvL ys xs
    | _ => False
  | .v a, y => y = .v a
def rvL : List AV → List AV → Prop
  | [], [] => True
  | y :: ys, x :: xs => rv y x ∧ rvL ys xs
  | _, _ => False
end

def rvO : Ob → Ob → Prop
  | .box ys, .box xs => rvL h S N ys xs
  | .row e sz ys, .row e' sz' xs => e = e' ∧ sz = sz' ∧ ys = xs
  | .map ys, .map xs => ys = xs
  | _, _ => False

/-- The names of S, each before and after. -/
def rvH (h' : List (Nat × Ob)) : List (Nat × Nat) → Prop
  | [] => True
  | (k, b) :: l => (match get h' k, get h b with
    | some y, some x => rvO h S N y x
    | _, _ => False) ∧ rvH h' l

def rvN (h' : List (Nat × Ob)) : List Nat → Prop
  | [] => True
  | k :: l => (match get h' k with
    | some (.row _ _ xs) => xs = []
    | _ => False) ∧ rvN h' l

def rvT (t : List (Nat × AV)) : List (Nat × AV) → Prop
  | [] => True
  | (k, y) :: l => (match get t k with
    | some x => rv h S N y x
    | none => False) ∧ rvT t l

/-- The boxes that the caller handed over stay. -/
def keep1 (b : Nat) : Bool := match get h b with
  | some (.box _) => get S b == some b
  | _ => true

def okS (h' : List (Nat × Ob)) : Bool :=
  decide ((S.map Prod.snd).Nodup) && (N.all (fun k => !(S.map Prod.fst).contains k) && ((h'.map Prod.fst).all (fun k => (S.map Prod.fst).contains k || N.contains k) &&
    (keep1 h S 0 && (keep1 h S 1 && (keep1 h S 2 && keep1 h S 3)))))

end

theorem get_mem {α : Type} {l : List (Nat × α)} {k : Nat} {x : α} (h : get l k = some x) : (k, x) ∈ l := by
  induction l with
  | nil => simp [get] at h
  | cons p l ih =>
    obtain ⟨a, b⟩ := p
    simp only [get] at h
    split at h
    · rename_i e; cases h; subst e; exact List.mem_cons_self ..
    · exact List.mem_cons_of_mem _ (ih h)

theorem get_keys {α : Type} {l : List (Nat × α)} {k : Nat} (h : k ∈ l.map Prod.fst) : ∃ x, get l k = some x := by
  induction l with
  | nil => simp at h
  | cons p l ih =>
    obtain ⟨a, b⟩ := p
    simp only [List.map_cons, List.mem_cons] at h
    simp only [get]
    by_cases e : a = k
    · exact ⟨b, by rw [if_pos e]⟩
    · rw [if_neg e]; exact ih (h.resolve_left fun h => e h.symm)

section
variable {C : Ctx} {ρ : Nat → Loc} {U : Nat → Prop} {h h' : List (Nat × Ob)} {S : List (Nat × Nat)} {N : List Nat} {w : World}

def newLoc (ρ : Nat → Loc) (S : List (Nat × Nat)) (N : List Nat) (k : Nat) : Loc := match get S k with
  | some b => ρ b
  | none => if k ∈ N then .nil else .dead
def newU (S : List (Nat × Nat)) (N : List Nat) (k : Nat) : Prop := k ∈ S.map Prod.fst ∨ k ∈ N

theorem newU_of {k b : Nat} (h : get S k = some b) : newU S N k := .inl (List.mem_map.2 ⟨_, get_mem h, rfl⟩)
theorem newLoc_of {k b : Nat} (h : get S k = some b) : newLoc ρ S N k = ρ b := by simp [newLoc, h]

theorem newOwned {g : Nat} (ho : Owned (newLoc ρ S N) g) : Owned ρ g ∧ ∃ k b o n, get S k = some b ∧ ρ b = .at g o n := by
  obtain ⟨k, o, n, hk⟩ := ho
  unfold newLoc at hk
  split at hk
  · rename_i b hb
    exact ⟨⟨b, o, n, hk⟩, k, b, o, n, hb, hk⟩
  · split at hk <;> cases hk

theorem newOk {g : Nat} (hg : okc C ρ w g) : okc C (newLoc ρ S N) w g := ⟨hg.1, hg.2.1, fun ho => hg.2.2 (newOwned ho).1⟩

theorem rvL_len : ∀ (ys xs : List AV), rvL h S N ys xs → ys.length = xs.length
  | [], [], _ => rfl
  | _ :: ys, _ :: xs, h => by simp only [rvL] at h; simp [rvL_len ys xs h.2]
  | [], _ :: _, h => by simp [rvL] at h
  | _ :: _, [], h => by simp [rvL] at h

theorem rvL_get : ∀ (ys xs : List AV), rvL h S N ys xs → ∀ (i : Nat) (y : AV), ys[i]? = some y → ∃ x, xs[i]? = some x ∧ rv h S N y x
  | [], [], _, i, y, hy => by simp at hy
  | y :: ys, x :: xs, h, 0, z, hz => by
    simp only [rvL] at h
    simp at hz; subst hz
    exact ⟨x, rfl, h.1⟩
  | y :: ys, x :: xs, h, i + 1, z, hz => by
    simp only [rvL] at h
    simpa using rvL_get ys xs h.2 i z (by simpa using hz)
  | [], _ :: _, h, _, _, _ => by simp [rvL] at h
  | _ :: _, [], h, _, _, _ => by simp [rvL] at h


theorem VP.new {x : AV} {u : Value} (hv : VP w (okc C ρ w) x u) : VP w (okc C (newLoc ρ S N) w) x u := hv.mono (fun _ => newOk) (fun _ _ => rfl)

theorem okc_of_dropped (hr : HR C ρ U h w) {b g o n : Nat} {e : TypeId} {sz : Nat} {xs : List (List AV)} (hb : get h b = some (.row e sz xs)) (hl : ρ b = .at g o n) (hS : b ∉ S.map Prod.snd) :
    okc C (newLoc ρ S N) w g := by
  obtain ⟨h1, h2⟩ := hr.ownl g ⟨b, o, n, hl⟩
  refine ⟨?_, h2, fun ho => ?_⟩
  · rcases h1 with h1 | h1
    · obtain ⟨b', o', n', hb'⟩ := C.extl g h1
      obtain ⟨h3, _, cs, h4⟩ := hr.fix b' _ hb'
      have := hr.inj b b' g o n o' n' hl h3
      subst this
      rw [hb] at h4; cases h4
    · exact .inr h1
  · obtain ⟨_, k, b', o', n', hk, hb'⟩ := newOwned ho
    have := hr.inj b b' g o n o' n' hl hb'
    subst this
    exact hS (List.mem_map.2 ⟨_, get_mem hk, rfl⟩)

theorem rv_row_cell {b g o n : Nat} {e : TypeId} {sz : Nat} {xs : List (List AV)} (hr : HR C ρ U h w) (hb : get h b = some (.row e sz xs)) (hl : ρ b = .at g o n) :
    (∀ (k : Nat) (x : List AV), xs[k]? = some x → x.length = sz) ∧ ∃ f : Nat → Value, ∀ (k : Nat) (x : List AV) (j : Nat) (c : AV), xs[k]? = some x → x[j]? = some c →
      w.cell? ⟨g, o + (k * sz + j), none⟩ = some (f (k * sz + j)) ∧ (f (k * sz + j)).oneCell' = true ∧ VP w (okc C ρ w) c (f (k * sz + j)) := by
  obtain ⟨_, ho⟩ := hr.hp b _ hb
  rw [hl] at ho
  rcases ho with ⟨h1, _⟩ | ⟨g', o', n', cells, h1, h2, h3, h4, h5, h6⟩
  · cases h1
  · cases h1
    refine ⟨h5, fun i => (cells[o + i]?).getD undef, fun k x j c hk hj => ?_⟩
    obtain ⟨u, hu, h7, h8⟩ := h6 k x j c hk hj
    simp only [hu, Option.getD_some]
    exact ⟨by simp [World.cell?, h2, hu], h7, h8⟩

theorem rv_vp (hr : HR C ρ U h w) {x : AV} {u : Value} (hv : VP w (okc C ρ w) x u) : ∀ x', rv h S N x' x → VR w (okc C (newLoc ρ S N) w) (newLoc ρ S N) (newU S N) x' u := by
  induction hv with
  | v a =>
    intro x' hx
    cases x' with
    | v b =>
      simp only [rv] at hx
      cases hx; exact .p (.v _)
    | sl sz ys =>
      unfold rv at hx
      split at hx
      · rename_i e; cases e
      · rename_i e; cases e; subst hx; exact .p .nilsl
      · rename_i e; cases e
      · exact hx.elim
    | own k sz off len =>
      unfold rv at hx
      split at hx
      · rename_i e; cases e
      · rename_i e; cases e
        obtain ⟨hN, rfl⟩ := hx
        refine .own (.inr hN) ⟨⟨_, _, _, rfl⟩, ?_⟩
        cases newLoc ρ S N k with
        | dead => trivial
        | nil => exact ⟨rfl, rfl⟩
        | «at» g o n => exact .inl ⟨rfl, .inl rfl⟩
      · exact hx.elim
    | _ => simp only [rv] at hx
  | agg hl hc ih =>
    intro x' hx
    cases x' <;> simp only [rv] at hx <;> try (cases hx; done)
    have h1 := rvL_len _ _ hx
    refine .agg (by omega) fun i c u hi hu => ?_
    obtain ⟨x, h2, h3⟩ := rvL_get _ _ hx i c hi
    exact ih i x u h2 hu c h3
  | tup hl hc ih =>
    intro x' hx
    cases x' <;> simp only [rv] at hx <;> try (cases hx; done)
    have h1 := rvL_len _ _ hx
    refine .tup (by omega) fun i c u hi hu => ?_
    obtain ⟨x, h2, h3⟩ := rvL_get _ _ hx i c hi
    exact ih i x u h2 hu c h3
  | fn hl hc ih =>
    intro x' hx
    cases x' <;> simp only [rv] at hx <;> try (cases hx; done)
    obtain ⟨rfl, hx⟩ := hx
    have h1 := rvL_len _ _ hx
    refine .fn (by omega) fun i c u hi hu => ?_
    obtain ⟨x, h2, h3⟩ := rvL_get _ _ hx i c hi
    exact ih i x u h2 hu c h3
  | nilsl =>
    intro x' hx
    cases x' <;> simp only [rv] at hx <;> try (cases hx; done)
    obtain ⟨rfl, rfl⟩ := hx
    exact .p .nilsl
  | sl a n cap f hn hcap hk hl hc hv ih =>
    intro x' hx
    cases x' <;> simp only [rv] at hx <;> try (cases hx; done)
    obtain ⟨rfl, rfl⟩ := hx
    exact .p (VP.new (.sl a n cap f hn hcap hk hl hc hv))
  | pel g o f hk hc hv ih =>
    intro x' hx
    cases x' <;> simp only [rv] at hx <;> try (cases hx; done)
    obtain ⟨rfl, rfl⟩ := hx
    exact .p (VP.new (.pel g o f hk hc hv))

/-- A value, after the turn. -/
theorem rv_vr (hr : HR C ρ U h w) {x : AV} {u : Value} (hv : VR w (okc C ρ w) ρ U x u) : ∀ x', rv h S N x' x → VR w (okc C (newLoc ρ S N) w) (newLoc ρ S N) (newU S N) x' u := by
  induction hv with
  | p hv => exact rv_vp hr hv
  | agg hl hc ih =>
    intro x' hx
    cases x' <;> simp only [rv] at hx <;> try (cases hx; done)
    have h1 := rvL_len _ _ hx
    refine .agg (by omega) fun i c u hi hu => ?_
    obtain ⟨x, h2, h3⟩ := rvL_get _ _ hx i c hi
    exact ih i x u h2 hu c h3
  | tup hl hc ih =>
    intro x' hx
    cases x' <;> simp only [rv] at hx <;> try (cases hx; done)
    have h1 := rvL_len _ _ hx
    refine .tup (by omega) fun i c u hi hu => ?_
    obtain ⟨x, h2, h3⟩ := rvL_get _ _ hx i c hi
    exact ih i x u h2 hu c h3
  | fn hl hc ih =>
    intro x' hx
    cases x' <;> simp only [rv] at hx <;> try (cases hx; done)
    obtain ⟨rfl, hx⟩ := hx
    have h1 := rvL_len _ _ hx
    refine .fn (by omega) fun i c u hi hu => ?_
    obtain ⟨x, h2, h3⟩ := rvL_get _ _ hx i c hi
    exact ih i x u h2 hu c h3
  | @own b sz off len u hu ho =>
    intro x' hx
    cases x' with
    | own k sz' off' len' =>
      simp only [rv] at hx
      obtain ⟨h1, rfl, rfl, rfl⟩ := hx
      exact .own (newU_of h1) (by rw [newLoc_of h1]; exact ho)
    | sl sz' ys =>
      simp only [rv] at hx
      obtain ⟨hS, rfl, hx⟩ := hx
      split at hx
      · rename_i e sz'' xs hb
        obtain ⟨rfl, hle, rfl⟩ := hx
        obtain ⟨_, hob⟩ := hr.hp b _ hb
        obtain ⟨_, ho⟩ := ho
        cases hl : ρ b with
        | dead =>
          rw [hl] at hob
          rcases hob with ⟨h1, _⟩ | ⟨g, o, n, cells, h1, _⟩ <;> cases h1
        | nil =>
          rw [hl] at ho
          obtain ⟨rfl, rfl⟩ := ho
          simp only [List.take_zero]
          exact .p .nilsl
        | «at» g o n =>
          rw [hl] at ho
          obtain ⟨h5, f, hf⟩ := rv_row_cell hr hb hl
          have hok := okc_of_dropped (S := S) (N := N) hr hb hl hS
          have hlen : ((xs.drop off).take len).length = len := by simp; omega
          have hget : ∀ (k : Nat) (x : List AV), ((xs.drop off).take len)[k]? = some x → xs[off + k]? = some x := fun k x hk => by
            rw [List.getElem?_take] at hk
            split at hk
            · rw [List.getElem?_drop] at hk; exact hk
            · cases hk
          rcases ho with ⟨rfl, rfl | ⟨a, rfl⟩⟩ | ⟨cap, h1, h2, rfl⟩
          · simp only [List.take_zero]
            exact .p .nilsl
          · simp only [List.take_zero]
            exact .p (.sl a 0 0 (fun _ _ => undef) rfl (Nat.le_refl _) (fun h => absurd h (by simp)) (fun k e h => by simp at h) (fun k e j c h => by simp at h) (fun k e j c h => by simp at h))
          · refine .p (.sl ⟨g, o + off * sz', none⟩ len cap (fun k j => f ((off + k) * sz' + j)) hlen.symm h1 (fun _ => ⟨rfl, hok⟩) (fun k e hk => h5 _ e (hget k e hk)) (fun k e j c hk hj => ?_) (fun k e j c hk hj => ?_))
            · obtain ⟨h6, h7, _⟩ := hf _ e j c (hget k e hk) hj
              refine ⟨?_, h7⟩
              rw [← h6]
              congr 2
              simp only [Nat.add_mul]; omega
            · exact (hf _ e j c (hget k e hk) hj).2.2.new
      · exact hx.elim
    | _ => simp only [rv] at hx <;> cases hx
  | @ptr b j a hu ho =>
    intro x' hx
    cases x' <;> simp only [rv] at hx <;> try (cases hx; done)
    obtain ⟨h1, rfl⟩ := hx
    exact .ptr a (newU_of h1) (by rw [newLoc_of h1]; exact ho)
  | @rp b sz k j a hu ho =>
    intro x' hx
    cases x' with
    | rp k' sz' i' j' =>
      simp only [rv] at hx
      obtain ⟨h1, rfl, rfl, rfl⟩ := hx
      exact .rp a (newU_of h1) (by rw [newLoc_of h1]; exact ho)
    | pel cs j' =>
      simp only [rv] at hx
      obtain ⟨hS, rfl, hx⟩ := hx
      split at hx
      · rename_i e sz'' xs hb
        obtain ⟨rfl, hlt, rfl⟩ := hx
        obtain ⟨_, hob⟩ := hr.hp b _ hb
        cases hl : ρ b with
        | dead =>
          rw [hl] at hob
          rcases hob with ⟨h1, _⟩ | ⟨g, o, n, cells, h1, _⟩ <;> cases h1
        | nil =>
          rw [hl] at hob
          rcases hob with ⟨_, rfl⟩ | ⟨g, o, n, cells, h1, _⟩
          · simp at hlt
          · cases h1
        | «at» g o n =>
          obtain ⟨h5, f, hf⟩ := rv_row_cell hr hb hl
          have hok := okc_of_dropped (S := S) (N := N) hr hb hl hS
          have hk : xs[k]? = some (nth xs k) := by simp [nth, hlt]
          have ha := ho g o n hl
          subst ha
          have e1 : o + (k * sz + j') = (o + k * sz) + j' := by omega
          rw [e1]
          refine .p (.pel g (o + k * sz) (fun i => f (k * sz + i)) hok (fun i c hi => ?_) (fun i c hi => ?_))
          · rw [← (hf k _ i c hk hi).1]
            congr 2
            omega
          · exact (hf k _ i c hk hi).2.2.new
      · exact hx.elim
    | _ => simp only [rv] at hx <;> cases hx
  | @mp b r hu ho =>
    intro x' hx
    cases x' <;> simp only [rv] at hx <;> try (cases hx; done)
    exact .mp r (newU_of hx) (by rw [newLoc_of hx]; exact ho)

theorem okS_spec {h h' : List (Nat × Ob)} (hS : okS h S N h' = true) : (∀ k k' b, get S k = some b → get S k' = some b → k = k') ∧ (∀ k ∈ N, get S k = none) ∧ (∀ k o, get h' k = some o → k ∈ S.map Prod.fst ∨ k ∈ N) ∧
    ∀ b, b < 4 → ∀ cs, get h b = some (.box cs) → get S b = some b := by
  simp only [okS, Bool.and_eq_true, decide_eq_true_eq, List.all_eq_true, Bool.not_eq_true', Bool.or_eq_true] at hS
  obtain ⟨h1, h2, h3, h4, h5, h6, h7⟩ := hS
  refine ⟨fun k k' b hk hk' => ?_, fun k hk => ?_, fun k o hk => ?_, fun b hb cs hcs => ?_⟩
  · clear h2 h3 h4 h5 h6 h7
    induction S with
    | nil => simp [get] at hk
    | cons p S ih =>
      obtain ⟨x, y⟩ := p
      simp only [List.map_cons, List.nodup_cons] at h1
      simp only [get] at hk hk'
      split at hk <;> split at hk'
      · rename_i e1 e2; rw [← e1, ← e2]
      · cases hk
        exact absurd (List.mem_map.2 ⟨_, get_mem hk', rfl⟩) h1.1
      · cases hk'
        exact absurd (List.mem_map.2 ⟨_, get_mem hk, rfl⟩) h1.1
      · exact ih h1.2 hk hk'
  · cases hg : get S k with
    | none => rfl
    | some b =>
      have := h2 k hk
      have hm : k ∈ S.map Prod.fst := List.mem_map.2 ⟨_, get_mem hg, rfl⟩
      simp only [List.contains_iff_mem, List.contains_eq_mem, decide_eq_false_iff_not] at this
      exact absurd hm this
  · have := h3 k (List.mem_map.2 ⟨_, get_mem hk, rfl⟩)
    simpa using this
  · have key : ∀ b, keep1 h S b = true → ∀ cs, get h b = some (.box cs) → get S b = some b := fun b hb cs hcs => by
      unfold keep1 at hb
      rw [hcs] at hb
      simpa using hb
    match b, hb with
    | 0, _ => exact key 0 h4 cs hcs
    | 1, _ => exact key 1 h5 cs hcs
    | 2, _ => exact key 2 h6 cs hcs
    | 3, _ => exact key 3 h7 cs hcs

theorem rvH_get {h h' : List (Nat × Ob)} : ∀ (l : List (Nat × Nat)), rvH h S N h' l → ∀ k b, get l k = some b → ∃ y x, get h' k = some y ∧ get h b = some x ∧ rvO h S N y x
  | [], _, k, b, hk => by simp [get] at hk
  | (k0, b0) :: l, hh, k, b, hk => by
    simp only [rvH] at hh
    simp only [get] at hk
    split at hk
    · rename_i e; cases hk; subst e
      obtain ⟨h1, _⟩ := hh
      split at h1
      · rename_i y x hy hx; exact ⟨y, x, hy, hx, h1⟩
      · exact h1.elim
    · exact rvH_get l hh.2 k b hk

theorem rvN_get {h' : List (Nat × Ob)} : ∀ (l : List Nat), rvN h' l → ∀ k ∈ l, ∃ e sz, get h' k = some (.row e sz [])
  | [], _, k, hk => by simp at hk
  | k0 :: l, hh, k, hk => by
    simp only [rvN] at hh
    rcases List.mem_cons.1 hk with rfl | hk
    · obtain ⟨h1, _⟩ := hh
      split at h1
      · rename_i e sz xs hg; subst h1; exact ⟨e, sz, hg⟩
      · exact h1.elim
    · exact rvN_get l hh.2 k hk

/-- The names, after the turn. -/
theorem rv_hr (hr : HR C ρ U h w) (hS : okS h S N h' = true) (hH : rvH h S N h' S) (hN : rvN h' N) : HR C (newLoc ρ S N) (newU S N) h' w := by
  obtain ⟨inj, hNS, hdom, h4⟩ := okS_spec hS
  refine ⟨fun k o hk => ?_, fun k hk => ?_, fun k k' g o n o' n' h1 h2 => ?_, hr.os, hr.tape, hr.output, hr.size, hr.old, hr.okl, fun g ho => hr.ownl g (newOwned ho).1, fun b l hb => ?_⟩
  · refine ⟨hdom k o hk, ?_⟩
    cases hg : get S k with
    | some b =>
      rw [newLoc_of hg]
      obtain ⟨y, x, hy, hx, hv⟩ := rvH_get S hH k b hg
      rw [hk] at hy; cases hy
      obtain ⟨_, hob⟩ := hr.hp b x hx
      cases o <;> cases x <;> simp only [rvO] at hv
      · rename_i ys xs
        obtain ⟨g, o, n, e, cells, h1, h2, h3, h5, h6⟩ := hob
        have hl := rvL_len _ _ hv
        refine ⟨g, o, n, e, cells, h1, h2, h3, by omega, fun j c hj => ?_⟩
        obtain ⟨x, hx, hxv⟩ := rvL_get _ _ hv j c hj
        obtain ⟨u, hu, huv⟩ := h6 j x hx
        exact ⟨u, hu, rv_vr hr huv c hxv⟩
      · obtain ⟨rfl, rfl, rfl⟩ := hv
        rcases hob with hob | ⟨g, o, n, cells, h1, h2, h3, h5, h6, h7⟩
        · exact .inl hob
        · refine .inr ⟨g, o, n, cells, h1, h2, h3, h5, h6, fun k x j c hk hj => ?_⟩
          obtain ⟨u, hu, h8, h9⟩ := h7 k x j c hk hj
          exact ⟨u, hu, h8, h9.new⟩
      · subst hv
        obtain ⟨g, ents, clock, h1, h2, h3, h5⟩ := hob
        exact ⟨g, ents, clock, h1, h2, h3, fun i k c m hi he => ⟨(h5 i k c m hi he).1, (h5 i k c m hi he).2.new⟩⟩
    | none =>
      have hkN : k ∈ N := by
        rcases hdom k o hk with h | h
        · obtain ⟨b, hb⟩ := get_keys h
          rw [hg] at hb; cases hb
        · exact h
      obtain ⟨e, sz, hrow⟩ := rvN_get N hN k hkN
      rw [hk] at hrow; cases hrow
      refine .inl ⟨?_, rfl⟩
      simp only [newLoc, hg, hkN, if_true]
  · cases hg : get S k with
    | some b =>
      obtain ⟨y, x, hy, _⟩ := rvH_get S hH k b hg
      rw [hk] at hy; cases hy
    | none =>
      have hkN : k ∉ N := fun h => by
        obtain ⟨e, sz, hrow⟩ := rvN_get N hN k h
        rw [hk] at hrow; cases hrow
      simp only [newLoc, hg, hkN, if_false]
  · have key : ∀ k g o n, newLoc ρ S N k = .at g o n → ∃ b, get S k = some b ∧ ρ b = .at g o n := fun k g o n hk => by
      unfold newLoc at hk
      split at hk
      · rename_i b hb; exact ⟨b, hb, hk⟩
      · split at hk <;> cases hk
    obtain ⟨b, hb, hl⟩ := key k g o n h1
    obtain ⟨b', hb', hl'⟩ := key k' g o' n' h2
    have := hr.inj b b' g o n o' n' hl hl'
    subst this
    exact inj k k' b hb hb'
  · obtain ⟨h1, h2, cs, h3⟩ := hr.fix b l hb
    have hg := h4 b (C.locb b l hb) cs h3
    refine ⟨by rw [newLoc_of hg]; exact h1, newU_of hg, ?_⟩
    obtain ⟨y, x, hy, hx, hv⟩ := rvH_get S hH b b hg
    rw [h3] at hx; cases hx
    cases y <;> simp only [rvO] at hv
    exact ⟨_, hy⟩

/-- Forgetting, renaming, freezing, at the head of a loop. -/
theorem Wk.mk {s s' : St} (S : List (Nat × Nat)) (N : List Nat) (hS : okS s.h S N s'.h = true) (hn : (S.map Prod.fst ++ N).all (fun k => decide (k < s'.n)) = true)
    (hH : rvH s.h S N s'.h S) (hN : rvN s'.h N) (hT : rvT s.h S N s.t s'.t) : Wk s s' := by
  intro C ρ U a w hR hU
  refine ⟨newLoc ρ S N, newU S N, ⟨rv_hr hR.hr hS hH hN, hR.defers, hR.sz, fun k x' hk => ?_⟩, fun b hb => ?_⟩
  · have key : ∀ l, rvT s.h S N s.t l → get l k = some x' → ∃ x, get s.t k = some x ∧ rv s.h S N x' x := fun l => by
      induction l with
      | nil => intro _ h; simp [get] at h
      | cons p l ih =>
        obtain ⟨j, y⟩ := p
        intro h hg
        simp only [rvT] at h
        simp only [get] at hg
        split at hg
        · rename_i e; cases hg; subst e
          obtain ⟨h1, _⟩ := h
          split at h1
          · rename_i x hx; exact ⟨x, hx, h1⟩
          · exact h1.elim
        · exact ih h.2 hg
    obtain ⟨x, hx, hv⟩ := key s'.t hT hk
    obtain ⟨u, hu, hvr⟩ := hR.tm k x hx
    exact ⟨u, hu, rv_vr hR.hr hvr x' hv⟩
  · simp only [List.all_eq_true, List.mem_append, decide_eq_true_eq] at hn
    rcases hb with hb | hb
    · exact hn b (.inl hb)
    · exact hn b (.inr hb)

theorem rvT_get {h h' : List (Nat × Ob)} {S : List (Nat × Nat)} {N : List Nat} {t : List (Nat × AV)} {k : Nat} {x' : AV} : ∀ l, rvT h S N t l → get l k = some x' → ∃ x, get t k = some x ∧ rv h S N x' x := fun l => by
  induction l with
  | nil => intro _ h; simp [get] at h
  | cons p l ih =>
    obtain ⟨j, y⟩ := p
    intro h hg
    simp only [rvT] at h
    simp only [get] at hg
    split at hg
    · rename_i e; cases hg; subst e
      obtain ⟨h1, _⟩ := h
      split at h1
      · rename_i x hx; exact ⟨x, hx, h1⟩
      · exact h1.elim
    · exact ih h.2 hg

/-- Forgetting and freezing: the names that stay. -/
theorem WkTH.mk {t t' : List (Nat × AV)} {h h' : List (Nat × Ob)} (S : List (Nat × Nat)) (hid : S.all (fun p => p.1 == p.2) = true) (hS : okS h S [] h' = true) (hH : rvH h S [] h' S) (hT : rvT h S [] t t') : WkTH t h t' h' := by
  intro C ρ U a w hR
  refine ⟨newLoc ρ S [], newU S [], ⟨rv_hr hR.hr hS hH (by simp only [rvN]), hR.defers, hR.sz, fun k x' hk => ?_⟩, fun b hb => ?_⟩
  · obtain ⟨x, hx, hv⟩ := rvT_get (h' := h') t' hT hk
    obtain ⟨u, hu, hvr⟩ := hR.tm k x hx
    exact ⟨u, hu, rv_vr hR.hr hvr x' hv⟩
  · rcases hb with hb | hb
    · obtain ⟨c, hc⟩ := get_keys hb
      have := List.all_eq_true.1 hid _ (get_mem hc)
      simp only [beq_iff_eq] at this
      subst this
      obtain ⟨y, x, _, hx, _⟩ := rvH_get S hH b b hc
      exact (hR.hr.hp b x hx).1
    · simp at hb
end
end Go.Eng
