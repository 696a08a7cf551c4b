/-
  Arguments: slices of integers, strings and plain numbers, as the engine reads them.
-/
import Derived.Test.YteonhcjaekodkaaEng18
import Derived.DataReads
set_option linter.all false
namespace Go.Eng
open Go

theorem Arg.val (w : World) (u : Value) : Arg w (.v u) u := .v u
theorem Arg.nil (w : World) (sz : Nat) : Arg w (.sl sz []) (.slice none 0 0) := .nilsl

theorem Arg.ints {w : World} {k : IntKind} {x : Addr} {len cap : Nat} {zs : List Int} (hl : len ≤ cap) (hz : zs.length = cap)
    (hc : ∀ i, i < zs.length → w.cell? (x.add i) = some (.int k (zs.getD i 0))) : Arg w (.sl 1 ((zs.take len).map fun z => [.v (.int k z)])) (.slice (some x) len cap) := by
  have hlen : ((zs.take len).map fun z => [AV.v (.int k z)]).length = len := by simp; omega
  have hel : ∀ (i : Nat) (e : List AV), ((zs.take len).map fun z => [AV.v (.int k z)])[i]? = some e → i < len ∧ e = [.v (.int k (zs.getD i 0))] := by
    intro i e h
    have h1 : i < len := by rw [← hlen]; exact (List.getElem?_eq_some_iff.1 h).1
    refine ⟨h1, ?_⟩
    rw [List.getElem?_map, List.getElem?_take_of_lt h1] at h
    rw [List.getD_eq_getElem?_getD]
    cases hz : zs[i]? with
    | none => rw [hz] at h; cases h
    | some z => rw [hz] at h; simp only [Option.map_some, Option.some.injEq] at h; rw [← h]; rfl
  have hadd : ∀ i, i < zs.length → w.cell? ⟨x.block, x.off + i, none⟩ = some (.int k (zs.getD i 0)) := by
    intro i hi
    have h := hc i hi
    have hs := World.cell?_spot h
    unfold Addr.add at h hs
    split at h
    · rename_i e
      subst e
      simp only [if_true] at hs
      obtain ⟨b, o, s⟩ := x
      simp only at hs
      subst hs
      exact h
    · exact h
  refine .sl x len cap (fun i _ => .int k (zs.getD i 0)) hlen.symm hl (fun h => ?_) (fun i e h => by obtain ⟨_, rfl⟩ := hel i e h; rfl) (fun i e j c h hj => ?_) (fun i e j c h hj => ?_)
  · have h0 : 0 < zs.length := by rw [hlen] at h; omega
    have h1 := hc 0 h0
    simp only [Addr.add, if_true] at h1
    refine ⟨World.cell?_spot h1, ?_⟩
    unfold World.cell? at h1
    split at h1
    · rename_i c a b hb
      exact (Array.getElem?_eq_some_iff.1 hb).1
    · cases h1
  · obtain ⟨h1, rfl⟩ := hel i e h
    have hj0 : j = 0 := by
      have := (List.getElem?_eq_some_iff.1 hj).1
      simpa using this
    subst hj0
    simp only [Nat.mul_one, Nat.add_zero]
    exact ⟨hadd i (by omega), rfl⟩
  · obtain ⟨h1, rfl⟩ := hel i e h
    have hj0 : j = 0 := by
      have := (List.getElem?_eq_some_iff.1 hj).1
      simpa using this
    subst hj0
    simp only [List.getElem?_cons_zero, Option.some.injEq] at hj
    subst hj
    exact .v _
end Go.Eng
