/-
  Walks and plain lemmas for ScriptTokens: what the functions named below compute, over the abstract states of the engine.
  No condition beyond those that each theorem states.
-/
import Derived.Test.YteonhcjaekodkaaTok6
import Derived.Test.YteonhcjaekodkaaMsgArg
set_option linter.all false
set_option linter.unusedSimpArgs false
set_option maxRecDepth 20000
namespace Go.Eng
open Go Go.Proofs Go.ChangeShapes Go.WideShapes Go.Deep

theorem Arg.cells {w : World} {x : Addr} {len cap : Nat} {xs : List AV} {us : Nat → Value} (hl : len ≤ cap) (hz : xs.length = len)
    (hc : ∀ i a, xs[i]? = some a → w.cell? (x.add i) = some (us i) ∧ (us i).oneCell' = true ∧ Arg w a (us i)) : Arg w (.sl 1 (xs.map fun a => [a])) (.slice (some x) len cap) := by
  have hlen : (xs.map fun a => [a]).length = len := by simp [hz]
  have hel : ∀ (i : Nat) (e : List AV), (xs.map fun a => [a])[i]? = some e → ∃ a, xs[i]? = some a ∧ e = [a] := by
    intro i e h
    rw [List.getElem?_map] at h
    cases hz : xs[i]? with
    | none => rw [hz] at h; cases h
    | some z => rw [hz] at h; simp only [Option.map_some, Option.some.injEq] at h; exact ⟨z, rfl, h.symm⟩
  refine .sl x len cap (fun i _ => us i) hlen.symm hl (fun h => ?_) (fun i e h => by obtain ⟨a, _, rfl⟩ := hel i e h; rfl) (fun i e j c h hj => ?_) (fun i e j c h hj => ?_)
  · have h0 : 0 < xs.length := by rw [hlen] at h; omega
    have h1 := (hc 0 _ (List.getElem?_eq_getElem h0)).1
    simp only [Addr.add, if_true] at h1
    refine ⟨World.cell?_spot h1, ?_⟩
    unfold World.cell? at h1
    split at h1
    · rename_i c a b hb
      exact (Array.getElem?_eq_some_iff.1 hb).1
    · cases h1
  · obtain ⟨a, h1, rfl⟩ := hel i e h
    have hj0 : j = 0 := by
      cases j with
      | zero => rfl
      | succ n => simp at hj
    subst hj0
    have h2 := hc i a h1
    have h3 := cell_flat h2.1
    rw [Nat.mul_one, Nat.add_zero]
    exact ⟨h3, h2.2.1⟩
  · obtain ⟨a, h1, rfl⟩ := hel i e h
    cases j with
    | zero => simp only [List.getElem?_cons_zero, Option.some.injEq] at hj; subst hj; exact (hc i a h1).2.2
    | succ n => simp at hj

theorem cells5 : Try.prog.cellsOf 5 = 1 := by kernel_rfl
theorem cells22 : Try.prog.cellsOf 22 = 1 := by kernel_rfl

/-- Bytes. -/
theorem argBytes {H : Type} {enc : TypeId × Value → H} {w : World} {spare : Nat → Bool} {held : Bool} {fuel : Nat} {cs : List Value} {x : DataW H × List MemPlace}
    (h : DataW.trod enc Try.prog w 0 spare held fuel 22 cs = some x) : ∃ (v : Value) (b : List UInt8), cs = [v] ∧ Arg w (bsl b) v ∧ v.oneCell' = true := by
  rcases open_ints Try.underlying22 Try.underlying5 cells5 h with ⟨rfl, _⟩ | ⟨x, len, cap, zs, rfl, _, hl, hm, hz, _, hc, hw⟩
  · exact ⟨_, [], rfl, Arg.nil w 1, rfl⟩
  · have hzl : len ≤ zs.length := by rw [hz]; split <;> omega
    refine ⟨_, (zs.take len).map fun z => UInt8.ofNat z.toNat, rfl, ?_, rfl⟩
    have e : encB ((zs.take len).map fun z => UInt8.ofNat z.toNat) = ((zs.take len).map fun z => [Value.int .u8 z]).map fun e => e.map AV.v := by
      unfold encB
      rw [List.map_map, List.map_map]
      refine List.map_congr_left fun z hz => ?_
      have hb := bounds_u8 (hw z (List.mem_of_mem_take hz))
      have e1 : ((UInt8.ofNat z.toNat).toNat : Int) = z := by
        rw [UInt8.toNat_ofNat']
        omega
      simp only [Function.comp, B8, e1, List.map_cons, List.map_nil]
    unfold bsl
    rw [e]
    refine Arg.rows hl (by simp; omega) (by omega) (fun e he => by obtain ⟨z, _, rfl⟩ := List.mem_map.1 he; rfl) (fun e he v hv => by obtain ⟨z, _, rfl⟩ := List.mem_map.1 he; simp at hv; subst hv; rfl) (fun i j e v h1 h2 => ?_)
    rw [List.getElem?_map] at h1
    have hi : i < len := by
      rcases Nat.lt_or_ge i len with h | h
      · exact h
      · rw [List.getElem?_eq_none (by simp; omega)] at h1; cases h1
    rw [List.getElem?_take, if_pos hi, List.getElem?_eq_getElem (by omega)] at h1
    simp only [Option.map_some, Option.some.injEq] at h1
    subst h1
    cases j with
    | zero =>
      simp only [List.getElem?_cons_zero, Option.some.injEq] at h2
      subst h2
      have := hc i (by omega)
      rw [Nat.mul_one, Nat.add_zero, this]
      simp [List.getD, List.getElem?_eq_getElem (show i < zs.length by omega)]
    | succ n => simp at h2

/-- Slices of bytes. -/
theorem argBB {H : Type} {enc : TypeId × Value → H} {w : World} {spare : Nat → Bool} {held : Bool} {fuel : Nat} {cs : List Value} {x : DataW H × List MemPlace}
    (h : DataW.trod enc Try.prog w 0 spare held fuel 27 cs = some x) : ∃ (v : Value) (hs : List (List UInt8)), cs = [v] ∧ Arg w (.sl 1 (encBB hs)) v := by
  rcases open_slice1 Try.underlying27 cells22 h with ⟨rfl, _⟩ | ⟨a, len, cap, m, n, V, D, Pl, rfl, hb, hl, hm, hmm, _, hi⟩
  · exact ⟨_, [], rfl, Arg.nil w 1⟩
  have hlm : len ≤ m := by rw [hmm]; split <;> omega
  have key : ∀ i, i < len → ∃ b : List UInt8, w.cell? (a.add i) = some (V i) ∧ (V i).oneCell' = true ∧ Arg w (bsl b) (V i) := by
    intro i hil
    obtain ⟨hc, ht⟩ := hi i (by omega)
    obtain ⟨v, b, e, hA, ho⟩ := argBytes ht
    simp only [List.cons.injEq, and_true] at e
    subst e
    exact ⟨b, hc, ho, hA⟩
  have hfn : ∃ f : Nat → List UInt8, ∀ i, i < len → w.cell? (a.add i) = some (V i) ∧ (V i).oneCell' = true ∧ Arg w (bsl (f i)) (V i) :=
    ⟨fun i => if h : i < len then (key i h).choose else [], fun i hil => by simp only [hil, dif_pos]; exact (key i hil).choose_spec⟩
  obtain ⟨f, hf⟩ := hfn
  refine ⟨_, (List.range len).map f, rfl, ?_⟩
  have := Arg.cells (w := w) (x := a) (cap := cap) (xs := (List.range len).map fun i => bsl (f i)) (us := V) hl (by simp) (fun i y hy => by
    rcases Nat.lt_or_ge i len with h | h
    · simp [h] at hy
      subst hy
      exact hf i h
    · rw [List.getElem?_eq_none (by simp; omega)] at hy; cases hy)
  have e : ((List.range len).map fun i => bsl (f i)).map (fun a => [a]) = encBB ((List.range len).map f) := by
    unfold encBB
    rw [List.map_map, List.map_map]
    rfl
  rw [e] at this
  exact this
end Go.Eng
