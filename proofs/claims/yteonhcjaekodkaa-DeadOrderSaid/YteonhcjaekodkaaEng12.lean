/-
  The engine, part 12: what a function gives back.
  No condition: definitions and lemmas.
-/
import Derived.Test.YteonhcjaekodkaaEng11
set_option linter.all false
namespace Go.Eng
open Go

inductive SRes where
  | tmp (k : Nat)
  | cell (k : Nat) (ag : Bool) (sz : Nat)

def stripRes (P : Program) : List ResultVar → Option (List SRes)
  | [] => some []
  | .tmp k :: l => match stripRes P l with
    | some r => some (.tmp k :: r)
    | none => none
  | .cell k ty :: l => match aggP P ty, sizeP P ty, stripRes P l with
    | some ag, some sz, some r => some (.cell k ag sz :: r)
    | _, _, _ => none

def retV (t : List (Nat × AV)) (h : List (Nat × Ob)) : List SRes → Option (List AV)
  | [] => some []
  | .tmp k :: l => match get t k, retV t h l with
    | some x, some r => some (x :: r)
    | _, _ => none
  | .cell k ag sz :: l => match get t k, retV t h l with
    | some (.ptr b 0), some r => match get h b with
      | some (.box cs) => if ag then (if sz = cs.length then some (.agg cs :: r) else none) else match cs with
        | c :: _ => some (c :: r)
        | [] => none
      | _ => none
    | _, _ => none

def retOne : List AV → AV
  | [x] => x
  | xs => .tup xs

def resF (tmps : Array Value) : ResultVar → Sem Value
  | .tmp t => pure (tmps.getD t undef)
  | .cell a t => do loadVar t (← asAddr (tmps.getD a undef))

section
variable {P : Program} {C : Ctx} {ρ : Nat → Loc} {U : Nat → Prop} {h : List (Nat × Ob)} {w : World} {t : List (Nat × AV)} {a : Act}

theorem retV_ok (hr : HR C ρ U h w) (ht : Tm C ρ U w t a) : ∀ (l : List ResultVar) (sl : List SRes) (xs : List AV), stripRes P l = some sl → retV t h sl = some xs →
    ∃ vs : List Value, vs.length = l.length ∧ xs.length = l.length ∧ (∀ (i : Nat) (x : ResultVar) (v : Value), l[i]? = some x → vs[i]? = some v → (resF a.tmps x).run P w = .ok v w) ∧
      ∀ (i : Nat) (x : AV) (v : Value), xs[i]? = some x → vs[i]? = some v → VR w (okc C ρ w) ρ U x v
  | [], sl, xs, hs, hx => by
    simp only [stripRes, Option.some.injEq] at hs
    subst hs
    simp only [retV, Option.some.injEq] at hx
    subst hx
    exact ⟨[], rfl, rfl, fun i x v h => by simp at h, fun i x v h => by simp at h⟩
  | .tmp k :: l, sl, xs, hs, hx => by
    simp only [stripRes] at hs
    split at hs
    · rename_i r hr'
      cases hs
      simp only [retV] at hx
      split at hx
      · rename_i x r' hxk hrr
        cases hx
        obtain ⟨vs, h1, h2, h3, h4⟩ := retV_ok hr ht l r r' hr' hrr
        obtain ⟨u, hu, hv⟩ := ht k x hxk
        refine ⟨u :: vs, by simp [h1], by simp [h2], fun i y v hy hv' => ?_, fun i y v hy hv' => ?_⟩
        · cases i with
          | zero =>
            simp at hy hv'; subst hy; subst hv'
            simp [resF, hu]
          | succ i => exact h3 i y v (by simpa using hy) (by simpa using hv')
        · cases i with
          | zero => simp at hy hv'; subst hy; subst hv'; exact hv
          | succ i => exact h4 i y v (by simpa using hy) (by simpa using hv')
      · cases hx
    · cases hs
  | .cell k ty :: l, sl, xs, hs, hx => by
    simp only [stripRes] at hs
    split at hs
    · rename_i ag sz r hag hsz hr'
      cases hs
      simp only [retV] at hx
      split at hx
      · rename_i b r' hxk hrr
        split at hx
        · rename_i cs hb
          obtain ⟨vs, h1, h2, h3, h4⟩ := retV_ok hr ht l r r' hr' hrr
          obtain ⟨u, hu, hv⟩ := ht k _ hxk
          obtain ⟨_, ad, rfl, had⟩ := hv.ptr_inv
          obtain ⟨_, g, o, n, e, cells, hl, hg, hon, hn, hc⟩ := hr.hp b _ hb
          have ha := had g o n hl
          subst ha
          have hL := run_load_at (P := P) (w := w) (ρ := ρ) (U := U) (g := g) (o := o) hag hsz (cs := cs) (vs := ((List.range cs.length).map fun i => (cells[o + i]?).getD undef).toArray) (ok := okc C ρ w) (by simp)
            (fun j v hj => by
              rw [ranged] at hj
              obtain ⟨hlt, rfl⟩ := hj
              rw [cell_heap hg, Array.getElem?_eq_getElem (show o + j < cells.size by omega)]
              rfl)
            (fun j c v hj hv => by
              rw [ranged] at hv
              obtain ⟨hlt, rfl⟩ := hv
              obtain ⟨u, hu, hv⟩ := hc j c hj
              rw [hu]; exact hv)
          have fin : ∀ x, (∃ v, (loadVar ty ⟨g, o, none⟩).run P w = .ok v w ∧ VR w (okc C ρ w) ρ U x v) → xs = x :: r' → ∃ vs : List Value, vs.length = (ResultVar.cell k ty :: l).length ∧ xs.length = (ResultVar.cell k ty :: l).length ∧ (∀ (i : Nat) (x : ResultVar) (v : Value), (ResultVar.cell k ty :: l)[i]? = some x → vs[i]? = some v → (resF a.tmps x).run P w = .ok v w) ∧
                ∀ (i : Nat) (x : AV) (v : Value), xs[i]? = some x → vs[i]? = some v → VR w (okc C ρ w) ρ U x v := fun x hxv hxs => by
            obtain ⟨v, hrun, hvr⟩ := hxv
            exact ⟨v :: vs, by simp [h1], by rw [hxs]; simp [h2], fun i y v' hy hv' => by
              cases i with
              | zero =>
                simp at hy hv'; subst hy; subst hv'
                simp only [resF, Sem.run_bind, Array.getD_eq_getD_getElem?, hu, Option.getD_some, asAddr, Sem.run_pure, Result.andThen_ok]
                exact hrun
              | succ i => exact h3 i y v' (by simpa using hy) (by simpa using hv'), fun i y v' hy hv' => by
              rw [hxs] at hy
              cases i with
              | zero => simp at hy hv'; subst hy; subst hv'; exact hvr
              | succ i => exact h4 i y v' (by simpa using hy) (by simpa using hv')⟩
          split at hx
          · rename_i hag'
            split at hx
            · rename_i hsz'
              cases hx
              exact fin _ (hL.1 hag' hsz') rfl
            · cases hx
          · rename_i hag'
            split at hx
            · rename_i c cs' 
              cases hx
              exact fin _ (hL.2 (by simpa using hag') c rfl) rfl
            · cases hx
        · cases hx
      · cases hx
    · cases hs

theorem results_eq {fn : Func} (tmps : Array Value) (w : World) {l : List ResultVar} (hl : fn.results.toList = l) {vs : List Value} (h1 : vs.length = l.length) (h3 : l.length ≤ 4)
    (hv : ∀ (i : Nat) (x : ResultVar) (v : Value), l[i]? = some x → vs[i]? = some v → (resF tmps x).run P w = .ok v w) :
    (results fn tmps).run P w = .ok (if h : vs.length = 1 then vs[0] else .tuple vs.toArray) w := by
  have he : fn.results = l.toArray := by rw [← hl]
  have e0 : results fn tmps = (do let vs ← l.toArray.mapM (resF tmps); pure (if h : vs.size = 1 then vs[0] else .tuple vs)) := by
    rw [← he]
    unfold results
    rfl
  rw [e0]
  clear he e0
  subst hl
  revert hv h1 h3
  generalize fn.results.toList = l
  intro h1 h3 hv
  match l, vs, h1, hv with
  | [], [], _, _ => simp
  | [x], [v], _, hv =>
    have := (hv 0 x v rfl rfl)
    simp [this]
  | [x, y], [v, u], _, hv =>
    have e1 := (hv 0 x v rfl rfl)
    have e2 := (hv 1 y u rfl rfl)
    simp [e1, e2]
  | [x, y, z], [v, u, q], _, hv =>
    have e1 := (hv 0 x v rfl rfl)
    have e2 := (hv 1 y u rfl rfl)
    have e3 := (hv 2 z q rfl rfl)
    simp [e1, e2, e3]
  | [x, y, z, x'], [v, u, q, v'], _, hv =>
    have e1 := (hv 0 x v rfl rfl)
    have e2 := (hv 1 y u rfl rfl)
    have e3 := (hv 2 z q rfl rfl)
    have e4 := (hv 3 x' v' rfl rfl)
    simp [e1, e2, e3, e4]
  | _ :: _ :: _ :: _ :: _ :: _, _, _, _ => simp at h3

theorem retOne_ok {xs : List AV} {vs : List Value} (hl : xs.length = vs.length) (hv : ∀ (i : Nat) (x : AV) (v : Value), xs[i]? = some x → vs[i]? = some v → VR w (okc C ρ w) ρ U x v) :
    VR w (okc C ρ w) ρ U (retOne xs) (if h : vs.length = 1 then vs[0] else .tuple vs.toArray) := by
  match xs, vs, hl, hv with
  | [], [], _, _ => exact .tup rfl (fun i c u h => by simp at h)
  | [x], [v], _, hv => exact hv 0 x v rfl rfl
  | x :: y :: xs, v :: u :: vs, hl, hv =>
    rw [dif_neg (by simp)]
    refine .tup (by simpa using hl) fun i c u' hi hu => hv i c u' hi (by simpa using hu)
end
end Go.Eng
