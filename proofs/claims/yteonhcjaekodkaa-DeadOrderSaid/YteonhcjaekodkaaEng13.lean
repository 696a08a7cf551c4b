/-
  The engine, part 13: back from a call.
  No condition: definitions and lemmas.
-/
import Derived.Test.YteonhcjaekodkaaEng12
set_option linter.all false
namespace Go.Eng
open Go

def obsFrom : Nat → List Ob → List (Nat × Ob)
  | _, [] => []
  | k, o :: l => (k, o) :: obsFrom (k + 1) l
def boxesFrom (k : Nat) (bs : List (List AV)) : List (Nat × Ob) := obsFrom k (bs.map .box)
def boxesAt : List Nat → List (List AV) → List (Nat × Ob)
  | b :: B, cs :: bs => (b, .box cs) :: boxesAt B bs
  | _, _ => []
def outs (bs : List (List AV)) (es : List Ob) : List (Nat × Ob) := boxesFrom 0 bs ++ obsFrom 4 es

mutual
/-- The exported names, at the caller. -/
def sh (nm : Nat) : AV → AV
  | .own k sz off len => .own (nm + (k - 4)) sz off len
  | .ptr k j => .ptr (nm + (k - 4)) j
  | .agg cs => .agg (shL nm cs)
  | .tup cs => .tup (shL nm cs)
  | .fn f cs => .fn f (shL nm cs)
  | x => x
def shL (nm : Nat) : List AV → List AV
  | [] => []
  | c :: cs => sh nm c :: shL nm cs
end

mutual
/-- A value that a function may give back: pure, or with the names of the m exported rows. -/
def expA (m : Nat) : AV → Bool
  | .v _ => true
  | .sl _ _ => true
  | .pel _ _ => true
  | .own k _ _ _ => decide (4 ≤ k) && decide (k < 4 + m)
  | .ptr k _ => decide (4 ≤ k) && decide (k < 4 + m)
  | .agg cs => expL m cs
  | .tup cs => expL m cs
  | .fn _ cs => expL m cs
  | _ => false
def expL (m : Nat) : List AV → Bool
  | [] => true
  | c :: cs => expA m c && expL m cs
end

mutual
/-- A value that shares nothing with what is only read. -/
def na : AV → Bool
  | .v _ => true
  | .own _ _ _ _ => true
  | .agg cs => naL cs
  | .tup cs => naL cs
  | .fn _ cs => naL cs
  | _ => false
def naL : List AV → Bool
  | [] => true
  | c :: cs => na c && naL cs
end

theorem shL_get (nm : Nat) : ∀ (cs : List AV) (i : Nat) (c : AV), (shL nm cs)[i]? = some c → ∃ x, cs[i]? = some x ∧ c = sh nm x
  | [], i, c, h => by simp [shL] at h
  | x :: cs, 0, c, h => by simp [shL] at h; exact ⟨x, rfl, h.symm⟩
  | x :: cs, i + 1, c, h => by
    simp only [shL, List.getElem?_cons_succ] at h
    simpa using shL_get nm cs i c h
theorem shL_len (nm : Nat) : ∀ (cs : List AV), (shL nm cs).length = cs.length
  | [] => rfl
  | x :: cs => by simp [shL, shL_len nm cs]
theorem expL_get {m : Nat} : ∀ (cs : List AV), expL m cs = true → ∀ (i : Nat) (c : AV), cs[i]? = some c → expA m c = true
  | [], _, i, c, h => by simp at h
  | x :: cs, hh, 0, c, h => by simp only [expL, Bool.and_eq_true] at hh; simp at h; subst h; exact hh.1
  | x :: cs, hh, i + 1, c, h => by simp only [expL, Bool.and_eq_true] at hh; exact expL_get cs hh.2 i c (by simpa using h)
theorem naL_get : ∀ (cs : List AV), naL cs = true → ∀ (i : Nat) (c : AV), cs[i]? = some c → na c = true
  | [], _, i, c, h => by simp at h
  | x :: cs, hh, 0, c, h => by simp only [naL, Bool.and_eq_true] at hh; simp at h; subst h; exact hh.1
  | x :: cs, hh, i + 1, c, h => by simp only [naL, Bool.and_eq_true] at hh; exact naL_get cs hh.2 i c (by simpa using h)

theorem get_obsFrom : ∀ (l : List Ob) (k j : Nat), get (obsFrom k l) j = if k ≤ j then l[j - k]? else none
  | [], k, j => by simp [obsFrom]
  | o :: l, k, j => by
    simp only [obsFrom, get]
    by_cases e : k = j
    · subst e; simp
    · rw [if_neg e, get_obsFrom l (k + 1) j]
      by_cases h : k ≤ j
      · rw [if_pos h, if_pos (show k + 1 ≤ j by omega)]
        have : j - k = (j - (k + 1)) + 1 := by omega
        rw [this, List.getElem?_cons_succ]
      · rw [if_neg h, if_neg (by omega)]

theorem get_append {α : Type} (us t : List (Nat × α)) (k : Nat) : get (us ++ t) k = match get us k with
    | some x => some x
    | none => get t k := by
  induction us with
  | nil => rfl
  | cons p us ih =>
    obtain ⟨a, b⟩ := p
    simp only [List.cons_append, get]
    split
    · rfl
    · exact ih

theorem get_outs_box {bs : List (List AV)} {es : List Ob} {i : Nat} {cs : List AV} (h : bs[i]? = some cs) : get (outs bs es) i = some (.box cs) := by
  simp [outs, get_append, boxesFrom, get_obsFrom, h]
theorem get_outs_exp {bs : List (List AV)} {es : List Ob} {i : Nat} {o : Ob} (hb : bs.length ≤ 4) (h : es[i]? = some o) : get (outs bs es) (4 + i) = some o := by
  have : (bs.map Ob.box)[4 + i]? = none := by rw [List.getElem?_map, List.getElem?_eq_none (by omega)]; rfl
  simp only [outs, get_append, boxesFrom, get_obsFrom, Nat.zero_le, if_true, Nat.sub_zero, this]
  rw [if_pos (by omega)]
  have : 4 + i - 4 = i := by omega
  rw [this, h]

theorem get_boxesAt : ∀ (B : List Nat) (bs : List (List AV)) (k : Nat) (o : Ob), get (boxesAt B bs) k = some o → ∃ (i : Nat) (cs : List AV), B[i]? = some k ∧ bs[i]? = some cs ∧ o = .box cs
  | [], bs, k, o, h => by simp [boxesAt, get] at h
  | b :: B, [], k, o, h => by simp [boxesAt, get] at h
  | b :: B, cs :: bs, k, o, h => by
    simp only [boxesAt, get] at h
    split at h
    · rename_i e; cases h; subst e; exact ⟨0, cs, rfl, rfl, rfl⟩
    · obtain ⟨i, cs', h1, h2, h3⟩ := get_boxesAt B bs k o h
      exact ⟨i + 1, cs', by simpa using h1, by simpa using h2, h3⟩
theorem get_boxesAt_none : ∀ (B : List Nat) (bs : List (List AV)) (k : Nat), get (boxesAt B bs) k = none → B.length = bs.length → k ∉ B
  | [], bs, k, h, hl => by simp
  | b :: B, [], k, h, hl => by simp at hl
  | b :: B, cs :: bs, k, h, hl => by
    simp only [boxesAt, get] at h
    split at h
    · cases h
    · rename_i e
      have := get_boxesAt_none B bs k h (by simpa using hl)
      simp only [List.mem_cons, not_or]
      exact ⟨fun h => e h.symm, this⟩

section
variable {w w' : World} {ok ok' : Nat → Prop} {ρ ρ' : Nat → Loc} {U U' : Nat → Prop}

theorem ObR.mono (hok : ∀ g, ok g → ok' g) (hw : ∀ g, ok g → w'.heap[g]? = w.heap[g]?) (hU : ∀ b, U b → U' b) (hρ : Later U ρ ρ') {l : Loc} {o : Ob}
    (hl : ∀ g o n, l = .at g o n → w'.heap[g]? = w.heap[g]?) (ho : ObR w ok ρ U l o) : ObR w' ok' ρ' U' l o := by
  cases o with
  | box cs =>
    obtain ⟨g, o, n, e, cells, h1, h2, h3, h4, h5⟩ := ho
    refine ⟨g, o, n, e, cells, h1, (hl g o n h1).trans h2, h3, h4, fun j c hj => ?_⟩
    obtain ⟨u, hu, hv⟩ := h5 j c hj
    exact ⟨u, hu, hv.mono hok hw hU hρ⟩
  | row e sz xs =>
    rcases ho with ho | ⟨g, o, n, cells, h1, h2, h3, h4, h5, h6⟩
    · exact .inl ho
    · refine .inr ⟨g, o, n, cells, h1, (hl g o n h1).trans h2, h3, h4, h5, fun k x j c hk hj => ?_⟩
      obtain ⟨u, hu, h1c, hv⟩ := h6 k x j c hk hj
      exact ⟨u, hu, h1c, hv.mono hok hw⟩
  | map es =>
    obtain ⟨g, ents, clock, h1, h2, h3, h4⟩ := ho
    exact ⟨g, ents, clock, h1, (hl g 0 0 h1).trans h2, h3, fun i k c m hi he => ⟨(h4 i k c m hi he).1, (h4 i k c m hi he).2.mono hok hw⟩⟩
  | dead => exact ho

/-- What shares nothing holds whatever is read. -/
theorem VP.na {x : AV} {u : Value} (h : VP w ok x u) : Eng.na x = true → VP w' ok' x u := by
  induction h with
  | v x => intro _; exact .v x
  | agg hl _ ih => intro hn; exact .agg hl fun i c u h1 h2 => ih i c u h1 h2 (naL_get _ (by simpa [Eng.na] using hn) i c h1)
  | tup hl _ ih => intro hn; exact .tup hl fun i c u h1 h2 => ih i c u h1 h2 (naL_get _ (by simpa [Eng.na] using hn) i c h1)
  | fn hl _ ih => intro hn; exact .fn hl fun i c u h1 h2 => ih i c u h1 h2 (naL_get _ (by simpa [Eng.na] using hn) i c h1)
  | nilsl => intro hn; simp [Eng.na] at hn
  | sl => intro hn; simp [Eng.na] at hn
  | pel => intro hn; simp [Eng.na] at hn

theorem VR.sh {nm m : Nat} (hok : ∀ g, ok g → ok' g) (hρ : ∀ i, i < m → ρ' (nm + i) = ρ (4 + i)) (hU : ∀ i, i < m → U' (nm + i)) {x : AV} {u : Value} (h : VR w ok ρ U x u) :
    expA m x = true → VR w ok' ρ' U' (Eng.sh nm x) u := by
  have kp : ∀ {x : AV} {u : Value}, VP w ok x u → VR w ok' ρ' U' (Eng.sh nm x) u := fun h => by
    induction h with
    | v x => exact .p (.v x)
    | agg hl _ ih =>
      refine .agg (by rw [shL_len]; exact hl) fun i c u h1 h2 => ?_
      obtain ⟨x, hx, rfl⟩ := shL_get nm _ i c h1
      exact ih i x u hx h2
    | tup hl _ ih =>
      refine .tup (by rw [shL_len]; exact hl) fun i c u h1 h2 => ?_
      obtain ⟨x, hx, rfl⟩ := shL_get nm _ i c h1
      exact ih i x u hx h2
    | fn hl _ ih =>
      refine .fn (by rw [shL_len]; exact hl) fun i c u h1 h2 => ?_
      obtain ⟨x, hx, rfl⟩ := shL_get nm _ i c h1
      exact ih i x u hx h2
    | nilsl => exact .p .nilsl
    | sl a n cap f h1 h2 h3 h4 h5 h6 => exact .p ((VP.sl a n cap f h1 h2 h3 h4 h5 h6).mono hok (fun _ _ => rfl))
    | pel g o f h1 h2 h3 => exact .p ((VP.pel g o f h1 h2 h3).mono hok (fun _ _ => rfl))
  induction h with
  | p h => intro _; exact kp h
  | agg hl _ ih =>
    intro he
    refine .agg (by rw [shL_len]; exact hl) fun i c u h1 h2 => ?_
    obtain ⟨x, hx, rfl⟩ := shL_get nm _ i c h1
    exact ih i x u hx h2 (expL_get _ (by simpa [expA] using he) i x hx)
  | tup hl _ ih =>
    intro he
    refine .tup (by rw [shL_len]; exact hl) fun i c u h1 h2 => ?_
    obtain ⟨x, hx, rfl⟩ := shL_get nm _ i c h1
    exact ih i x u hx h2 (expL_get _ (by simpa [expA] using he) i x hx)
  | fn hl _ ih =>
    intro he
    refine .fn (by rw [shL_len]; exact hl) fun i c u h1 h2 => ?_
    obtain ⟨x, hx, rfl⟩ := shL_get nm _ i c h1
    exact ih i x u hx h2 (expL_get _ (by simpa [expA] using he) i x hx)
  | own hu h =>
    intro he
    simp only [expA, Bool.and_eq_true, decide_eq_true_eq] at he
    rename_i b sz off len u
    have e : 4 + (b - 4) = b := by omega
    refine .own (hU _ (by omega)) ?_
    rw [hρ _ (by omega), e]
    exact h
  | ptr a hu h =>
    intro he
    simp only [expA, Bool.and_eq_true, decide_eq_true_eq] at he
    rename_i b j
    have e : 4 + (b - 4) = b := by omega
    refine .ptr a (hU _ (by omega)) ?_
    rw [hρ _ (by omega), e]
    exact h
  | rp => intro he; simp [expA] at he
  | mp => intro he; simp [expA] at he

theorem VR.sh_na {nm m : Nat} (hρ : ∀ i, i < m → ρ' (nm + i) = ρ (4 + i)) (hU : ∀ i, i < m → U' (nm + i)) {x : AV} {u : Value} (h : VR w ok ρ U x u) :
    expA m x = true → Eng.na x = true → VR w' ok' ρ' U' (Eng.sh nm x) u := by
  have kp : ∀ {x : AV} {u : Value}, VP w ok x u → Eng.na x = true → VR w' ok' ρ' U' (Eng.sh nm x) u := fun h => by
    induction h with
    | v x => intro _; exact .p (.v x)
    | agg hl _ ih =>
      intro hn
      refine .agg (by rw [shL_len]; exact hl) fun i c u h1 h2 => ?_
      obtain ⟨x, hx, rfl⟩ := shL_get nm _ i c h1
      exact ih i x u hx h2 (naL_get _ (by simpa [Eng.na] using hn) i x hx)
    | tup hl _ ih =>
      intro hn
      refine .tup (by rw [shL_len]; exact hl) fun i c u h1 h2 => ?_
      obtain ⟨x, hx, rfl⟩ := shL_get nm _ i c h1
      exact ih i x u hx h2 (naL_get _ (by simpa [Eng.na] using hn) i x hx)
    | fn hl _ ih =>
      intro hn
      refine .fn (by rw [shL_len]; exact hl) fun i c u h1 h2 => ?_
      obtain ⟨x, hx, rfl⟩ := shL_get nm _ i c h1
      exact ih i x u hx h2 (naL_get _ (by simpa [Eng.na] using hn) i x hx)
    | nilsl => intro hn; simp [Eng.na] at hn
    | sl => intro hn; simp [Eng.na] at hn
    | pel => intro hn; simp [Eng.na] at hn
  induction h with
  | p h => intro _ hn; exact kp h hn
  | agg hl _ ih =>
    intro he hn
    refine .agg (by rw [shL_len]; exact hl) fun i c u h1 h2 => ?_
    obtain ⟨x, hx, rfl⟩ := shL_get nm _ i c h1
    exact ih i x u hx h2 (expL_get _ (by simpa [expA] using he) i x hx) (naL_get _ (by simpa [Eng.na] using hn) i x hx)
  | tup hl _ ih =>
    intro he hn
    refine .tup (by rw [shL_len]; exact hl) fun i c u h1 h2 => ?_
    obtain ⟨x, hx, rfl⟩ := shL_get nm _ i c h1
    exact ih i x u hx h2 (expL_get _ (by simpa [expA] using he) i x hx) (naL_get _ (by simpa [Eng.na] using hn) i x hx)
  | fn hl _ ih =>
    intro he hn
    refine .fn (by rw [shL_len]; exact hl) fun i c u h1 h2 => ?_
    obtain ⟨x, hx, rfl⟩ := shL_get nm _ i c h1
    exact ih i x u hx h2 (expL_get _ (by simpa [expA] using he) i x hx) (naL_get _ (by simpa [Eng.na] using hn) i x hx)
  | own hu h =>
    intro he hn
    simp only [expA, Bool.and_eq_true, decide_eq_true_eq] at he
    rename_i b sz off len u
    have e : 4 + (b - 4) = b := by omega
    refine .own (hU _ (by omega)) ?_
    rw [hρ _ (by omega), e]
    exact h
  | ptr => intro he hn; simp [Eng.na] at hn
  | rp => intro he; simp [expA] at he
  | mp => intro he; simp [expA] at he
end
end Go.Eng
