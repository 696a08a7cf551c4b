/-
  The engine, part 8: a region whose order is open: the plain part.
  No condition: lemmas.
-/
import Derived.Test.YteonhcjaekodkaaEng7
set_option linter.all false
namespace Go.Eng
open Go

section fold
variable {α β : Type}

/-- What the chosen ones of a list put, in the list's order. -/
def foldG (u : α → List (Nat × β)) : List α → (Nat → Bool) → List (Nat × β) → List (Nat × β)
  | [], _, t => t
  | x :: L, D, t => foldG u L (fun i => D (i + 1)) (bif D 0 then u x ++ t else t)

def keys (us : List (Nat × β)) : List Nat := us.map Prod.fst

theorem get_append_in {us t : List (Nat × β)} {k : Nat} (h : k ∈ keys us) : get (us ++ t) k = get us k := by
  induction us with
  | nil => simp [keys] at h
  | cons p us ih =>
    obtain ⟨a, b⟩ := p
    simp only [List.cons_append, get]
    by_cases e : a = k
    · rw [if_pos e, if_pos e]
    · rw [if_neg e, if_neg e]
      simp only [keys, List.map_cons, List.mem_cons] at h
      exact ih (h.resolve_left (fun h => e h.symm))

theorem get_append_out {us t : List (Nat × β)} {k : Nat} (h : k ∉ keys us) : get (us ++ t) k = get t k := by
  induction us with
  | nil => rfl
  | cons p us ih =>
    obtain ⟨a, b⟩ := p
    simp only [keys, List.map_cons, List.mem_cons, not_or] at h
    simp only [List.cons_append, get]
    rw [if_neg (fun e => h.1 e.symm)]
    exact ih h.2

variable {u : α → List (Nat × β)}

theorem foldG_read : ∀ (L : List α) (D E : Nat → Bool) (t t' : List (Nat × β)) (k : Nat), get t k = get t' k →
    (∀ i x, L[i]? = some x → k ∈ keys (u x) → D i = E i) → get (foldG u L D t) k = get (foldG u L E t') k
  | [], _, _, _, _, _, h, _ => h
  | x :: L, D, E, t, t', k, h, hk => by
    simp only [foldG]
    refine foldG_read L _ _ _ _ k ?_ fun i y hy hm => hk (i + 1) y (by simpa using hy) hm
    by_cases hx : k ∈ keys (u x)
    · rw [← hk 0 x rfl hx]
      cases D 0
      · exact h
      · simp only [cond_true]; rw [get_append_in hx, get_append_in hx]
    · cases D 0 <;> cases E 0 <;> simp only [cond_true, cond_false, get_append_out hx] <;> exact h

theorem foldG_none : ∀ (L : List α) (t : List (Nat × β)), foldG u L (fun _ => false) t = t
  | [], _ => rfl
  | _ :: L, t => by simp only [foldG, cond_false]; exact foldG_none L t

theorem foldG_last : ∀ (L : List α) (j : Nat) (x : α) (D : Nat → Bool) (t : List (Nat × β)) (k : Nat), L[j]? = some x → D j = true → k ∈ keys (u x) →
    (∀ i y, j < i → D i = true → L[i]? = some y → k ∉ keys (u y)) → get (foldG u L D t) k = get (u x) k
  | [], _, _, _, _, _, h, _, _, _ => by simp at h
  | y :: L, 0, x, D, t, k, h, hD, hk, hn => by
    simp only [List.getElem?_cons_zero, Option.some.injEq] at h
    subst h
    simp only [foldG, hD, cond_true]
    rw [foldG_read L _ (fun _ => false) _ _ k rfl fun i z hz hm => ?_, foldG_none, get_append_in hk]
    cases hd : D (i + 1) with
    | false => rfl
    | true => exact absurd hm (hn (i + 1) z (by omega) hd (by simpa using hz))
  | y :: L, j + 1, x, D, t, k, h, hD, hk, hn => by
    simp only [foldG]
    exact foldG_last L j x _ _ k (by simpa using h) hD hk fun i z hi hd hz => hn (i + 1) z (by omega) hd (by simpa using hz)

def setD (D : Nat → Bool) (j : Nat) : Nat → Bool := fun i => D i || i == j

theorem foldG_insert {L : List α} {j : Nat} {x : α} {D : Nat → Bool} {t : List (Nat × β)} (h : L[j]? = some x) (hD : D j = false)
    (hn : ∀ i y, j < i → D i = true → L[i]? = some y → ∀ k ∈ keys (u x), k ∉ keys (u y)) (k : Nat) :
    get (foldG u L (setD D j) t) k = get (u x ++ foldG u L D t) k := by
  by_cases hk : k ∈ keys (u x)
  · rw [get_append_in hk]
    refine foldG_last L j x _ t k h (by simp [setD]) hk fun i y hi hd hy => hn i y hi ?_ hy k hk
    have : (i == j) = false := by simp; omega
    simpa [setD, this] using hd
  · rw [get_append_out hk]
    refine foldG_read L _ _ _ _ k rfl fun i y hy hm => ?_
    by_cases e : i = j
    · subst e
      rw [h] at hy; cases hy
      exact absurd hm hk
    · simp [setD, e]
end fold

/-! What comes before. -/

theorem foldl_bit (acc : List Nat) (i : Nat) : ∀ (af : List Nat) (s : Nat), (af.foldl (fun s e => s ||| (2 ^ e ||| acc.getD e 0)) s).testBit i = true →
    s.testBit i = true ∨ ∃ e ∈ af, e = i ∨ (acc.getD e 0).testBit i = true
  | [], s, h => .inl h
  | e :: af, s, h => by
    simp only [List.foldl_cons] at h
    rcases foldl_bit acc i af _ h with h | ⟨e', he', h⟩
    · simp only [Nat.testBit_or, Bool.or_eq_true, Nat.testBit_two_pow, decide_eq_true_eq] at h
      rcases h with h | h | h
      · exact .inl h
      · exact .inr ⟨e, List.mem_cons_self .., .inl h⟩
      · exact .inr ⟨e, List.mem_cons_self .., .inr h⟩
    · exact .inr ⟨e', List.mem_cons_of_mem _ he', h⟩

/-- The masks say what is done, in a set that is closed. -/
def BefOk (as : List (List Nat)) (acc : List Nat) : Prop :=
  ∀ (j m : Nat), acc[j]? = some m → ∀ D : Nat → Bool, (∀ i af, D i = true → as[i]? = some af → ∀ e ∈ af, D e = true) → (∀ af, as[j]? = some af → ∀ e ∈ af, D e = true) →
    ∀ i, m.testBit i = true → D i = true

theorem befGo_ok (as : List (List Nat)) : ∀ (l : List (List Nat)) (acc : List Nat), as = as.take acc.length ++ l → acc.length ≤ as.length → BefOk as acc → BefOk as (befGo acc l)
  | [], acc, _, _, h => h
  | af :: l, acc, he, hl, h => by
    have haf : as[acc.length]? = some af := by
      rw [he, List.getElem?_append_right (by simp; omega)]
      simp [Nat.min_eq_left hl]
    have hlt : acc.length < as.length := (List.getElem?_eq_some_iff.1 haf).1
    refine befGo_ok as l _ ?_ (by simp; omega) ?_
    · have e1 : (acc ++ [af.foldl (fun s e => s ||| (2 ^ e ||| acc.getD e 0)) 0]).length = acc.length + 1 := by simp
      rw [e1, List.take_succ, haf]
      simpa using he
    · intro j m hj D hD hj' i hi
      rw [List.getElem?_append] at hj
      split at hj
      · exact h j m hj D hD hj' i hi
      · rename_i hge
        have hj0 : j - acc.length = 0 := by
          rcases Nat.eq_zero_or_pos (j - acc.length) with e | e
          · exact e
          · rw [List.getElem?_eq_none (by simp; omega)] at hj; cases hj
        rw [hj0] at hj
        simp only [List.getElem?_cons_zero, Option.some.injEq] at hj
        have hje : j = acc.length := by omega
        subst hje
        rw [← hj] at hi
        rcases foldl_bit acc i af 0 hi with h0 | ⟨e, he', h0⟩
        · simp at h0
        · have hDe := hj' af haf e he'
          rcases h0 with rfl | h0
          · exact hDe
          · have hlt : e < acc.length := by
              rcases Nat.lt_or_ge e acc.length with h1 | h1
              · exact h1
              · rw [List.getD_eq_getElem?_getD, List.getElem?_eq_none h1] at h0
                simp at h0
            have hm : acc[e]? = some (acc.getD e 0) := by
              rw [List.getD_eq_getElem?_getD, List.getElem?_eq_getElem hlt]; rfl
            exact h e _ hm D hD (fun af' haf' e' he'' => hD e af' hDe haf' e' he'') i h0

/-! What okDraw says. -/

theorem okAfter_spec : ∀ (l : List SOper) (n : Nat), okAfter n l = true → ∀ (j : Nat) (o : SOper), l[j]? = some o → ∀ e ∈ o.after, e < n + j
  | [], _, _, j, o, h => by simp at h
  | o :: l, n, h, 0, o', h' => by
    simp only [List.getElem?_cons_zero, Option.some.injEq] at h'
    subst h'
    simp only [okAfter, Bool.and_eq_true, List.all_eq_true, decide_eq_true_eq] at h
    exact fun e he => h.1 e he
  | o :: l, n, h, j + 1, o', h' => by
    simp only [okAfter, Bool.and_eq_true] at h
    intro e he
    have := okAfter_spec l (n + 1) h.2 j o' (by simpa using h') e he
    omega

theorem okPairs_spec (bef : List Nat) (all : List (SOper × Foot)) : ∀ (l : List (SOper × Foot)) (n : Nat), okPairs bef all n l = true →
    ∀ (j : Nat) (y : SOper × Foot), l[j]? = some y → ∀ (i : Nat) (x : SOper × Foot), i < n + j → all[i]? = some x → (bef.getD (n + j) 0).testBit i = true ∨ noconf x y = true
  | [], _, _, j, o, h => by simp at h
  | y :: l, n, h, 0, y', h' => by
    simp only [List.getElem?_cons_zero, Option.some.injEq] at h'
    subst h'
    simp only [okPairs, Bool.and_eq_true, List.all_eq_true, Bool.or_eq_true] at h
    intro i x hi hx
    have := h.1 (x, i) (by
      rw [List.mem_iff_getElem?]
      refine ⟨i, ?_⟩
      rw [List.getElem?_zipIdx, List.getElem?_take, if_pos (by omega), hx]
      simp)
    simpa using this
  | y :: l, n, h, j + 1, y', h' => by
    simp only [okPairs, Bool.and_eq_true] at h
    intro i x hi hx
    have := okPairs_spec bef all l (n + 1) h.2 j y' (by simpa using h') i x (by omega) hx
    have e : n + (j + 1) = n + 1 + j := by omega
    rw [e]; exact this

theorem offB_spec {xs ys : List Nat} (h : offB xs ys = true) {b : Nat} (hb : b ∈ xs) : b ∉ ys := by
  simp only [offB, List.all_eq_true, Bool.not_eq_true'] at h
  have := h b hb
  simpa using this

end Go.Eng
