/-
  A function's contract at whole calls: the bridge to the kit's `Calls` and `Below`, for a function that takes read-only arguments and hands back one plain value.
-/
import Derived.Test.YteonhcjaekodkaaEng16
import Derived.Below
set_option linter.all false
namespace Go.Eng
open Go Go.RowKit

/-- What an argument is: read off the world as it stands. -/
def Arg (w : World) (x : AV) (u : Value) : Prop := VP w (fun g => g < w.heap.size) x u

theorem Fn.said {P : Program} {f : FuncId} {xs : List AV} {v : Value} (hF : Fn P f xs [] (.v v) [] []) (w : World) (vals : Array Value) (hl : xs.length = vals.size)
    (hv : ∀ (i : Nat) (x : AV) (u : Value), xs[i]? = some x → vals[i]? = some u → Arg w x u) : Calls P f vals w fun e w' => e = .returned v ∧ Below w.heap.size w w' := by
  let C : Ctx := ⟨w, fun g => g < w.heap.size, fun _ => False, fun _ => none, 0, fun _ h => h.elim, fun _ _ h => by cases h⟩
  have hno : ∀ g, ¬ Owned (fun _ : Nat => Loc.dead) g := fun g ⟨b, o, n, h⟩ => by cases h
  have hr : HR C (fun _ => .dead) (fun _ => False) (boxesFrom 0 []) w := by
    refine ⟨fun b o h => ?_, fun _ _ => rfl, fun b b' g o n o' n' h => ?_, rfl, rfl, rfl, Nat.le_refl _, fun _ _ _ => rfl, fun g h => ⟨h, fun h => h⟩, fun g h => (hno g h).elim, fun b l h => ?_⟩
    · cases h
    · cases h
    · cases h
  refine (hF.2 C (fun _ => .dead) (fun _ => False) w vals hr (fun b h => h.elim) ⟨hl, fun i x u h1 h2 => .p ((hv i x u h1 h2).mono (fun g hg => ⟨.inl hg, hg, hno g⟩) (fun _ _ => rfl))⟩).mono fun e w' h => ?_
  obtain ⟨v', ρ', U', rfl, h1, h2⟩ := h
  obtain rfl := h2.v_inv
  refine ⟨rfl, h1.os, h1.tape, h1.output, h1.size, fun k hk => h1.old k hk fun h => h⟩
end Go.Eng
