/-
  Walks and plain lemmas for ScriptTokens: what the functions named below compute, over the abstract states of the engine.
  No condition beyond those that each theorem states.
-/
import Derived.Test.YteonhcjaekodkaaMsg2
import Derived.Test.YteonhcjaekodkaaEngE
import Derived.Test.YteonhcjaekodkaaRows
import Derived.Deep.Slices
import Derived.Deep.Fields
import Derived.ChangeSame
import Derived.WalkKit
import Derived.ProofKit
import Derived.OpenShut
set_option linter.all false
set_option linter.unusedSimpArgs false
set_option maxRecDepth 20000
namespace Go.Eng
open Go Go.Proofs Go.ChangeShapes Go.WideShapes Go.Deep

theorem cells3 : Try.prog.cellsOf 3 = 1 := by kernel_rfl
theorem cells9 : Try.prog.cellsOf 9 = 1 := by kernel_rfl
theorem cells44 : Try.prog.cellsOf 44 = 7 := by kernel_rfl

def Msg.vals (m : Msg) : List Value := [.int .i64 m.id, .int .i64 m.route, .int .i64 m.epoch, .int .i64 m.count, .int .i64 m.gen, .int .i64 m.sent, .string m.body]
theorem enc_vals (m : Msg) : m.vals.map AV.v = m.enc := rfl

theorem argM {H : Type} {enc : TypeId × Value → H} {w : World} {spare : Nat → Bool} {held : Bool} {fuel : Nat} {cs : List Value} {x : DataW H × List MemPlace}
    (h : DataW.trod enc Try.prog w 0 spare held fuel 38 cs = some x) : ∃ (v : Value) (ms : List Msg), cs = [v] ∧ Arg w (slM ms) v ∧ ms.length ≤ maxLen := by
  rcases open_slice Try.underlying38 h with ⟨rfl, _⟩ | ⟨a, len, cap, m, n, D, Pl, rfl, hb, hl, hm, hmm, _, hi⟩
  · exact ⟨_, [], rfl, Arg.nil w 7, Nat.zero_le _⟩
  have hlm : len ≤ m := by rw [hmm]; split <;> omega
  have key : ∀ i, i < len → ∃ mm : Msg, ∀ j v, mm.vals[j]? = some v → w.cell? (a.add (i * 7 + j)) = some v := by
    intro i hil
    obtain ⟨l, hc, ht⟩ := hi i (by omega)
    rw [cells44] at hc
    obtain ⟨_, hcl, hat⟩ := World.cells?_some hc
    obtain ⟨ys, n', _, _, _, hyl, hf⟩ := DataW.trod_struct Try.underlying44 ht
    have cell : ∀ j, j < 7 → w.cell? (a.add (i * 7 + j)) = l[j]? := fun j hj => by rw [← Go.Deep.add_add]; exact hat j hj
    match l, hcl, ys, hyl, cell, hf with
    | [x0, x1, x2, x3, x4, x5, x6], _, [y0, y1, y2, y3, y4, y5, y6], _, cell, hf =>
    have t0 : DataW.trod enc Try.prog w 0 spare held n' 3 (([x0, x1, x2, x3, x4, x5, x6].drop 0).take (Try.prog.cellsOf 3)) = some y0 := hf 0 _ rfl
    have t1 : DataW.trod enc Try.prog w 0 spare held n' 3 (([x0, x1, x2, x3, x4, x5, x6].drop 1).take (Try.prog.cellsOf 3)) = some y1 := hf 1 _ rfl
    have t2 : DataW.trod enc Try.prog w 0 spare held n' 3 (([x0, x1, x2, x3, x4, x5, x6].drop 2).take (Try.prog.cellsOf 3)) = some y2 := hf 2 _ rfl
    have t3 : DataW.trod enc Try.prog w 0 spare held n' 3 (([x0, x1, x2, x3, x4, x5, x6].drop 3).take (Try.prog.cellsOf 3)) = some y3 := hf 3 _ rfl
    have t4 : DataW.trod enc Try.prog w 0 spare held n' 3 (([x0, x1, x2, x3, x4, x5, x6].drop 4).take (Try.prog.cellsOf 3)) = some y4 := hf 4 _ rfl
    have t5 : DataW.trod enc Try.prog w 0 spare held n' 3 (([x0, x1, x2, x3, x4, x5, x6].drop 5).take (Try.prog.cellsOf 3)) = some y5 := hf 5 _ rfl
    have t6 : DataW.trod enc Try.prog w 0 spare held n' 9 (([x0, x1, x2, x3, x4, x5, x6].drop 6).take (Try.prog.cellsOf 9)) = some y6 := hf 6 _ rfl
    simp only [cells3, cells9, List.drop_zero, List.drop_succ_cons, List.take_succ_cons, List.take_zero, List.getElem?_cons_zero, List.getElem?_cons_succ] at t0 t1 t2 t3 t4 t5 t6
    have c0 := cell 0 (by omega)
    have c1 := cell 1 (by omega)
    have c2 := cell 2 (by omega)
    have c3 := cell 3 (by omega)
    have c4 := cell 4 (by omega)
    have c5 := cell 5 (by omega)
    have c6 := cell 6 (by omega)
    simp only [List.getElem?_cons_zero, List.getElem?_cons_succ] at c0 c1 c2 c3 c4 c5 c6
    obtain ⟨n0, e0, _⟩ := DataW.trod_int Try.underlying3 t0
    obtain ⟨n1, e1, _⟩ := DataW.trod_int Try.underlying3 t1
    obtain ⟨n2, e2, _⟩ := DataW.trod_int Try.underlying3 t2
    obtain ⟨n3, e3, _⟩ := DataW.trod_int Try.underlying3 t3
    obtain ⟨n4, e4, _⟩ := DataW.trod_int Try.underlying3 t4
    obtain ⟨n5, e5, _⟩ := DataW.trod_int Try.underlying3 t5
    obtain ⟨s6, e6, _⟩ := DataW.trod_string Try.underlying9 t6
    simp only [List.cons.injEq, and_true] at e0 e1 e2 e3 e4 e5 e6
    subst e0 e1 e2 e3 e4 e5 e6
    refine ⟨⟨n0, n1, n2, n3, n4, n5, s6⟩, fun j v hj => ?_⟩
    match j with
    | 0 => simp [Msg.vals] at hj; subst hj; exact c0
    | 1 => simp [Msg.vals] at hj; subst hj; exact c1
    | 2 => simp [Msg.vals] at hj; subst hj; exact c2
    | 3 => simp [Msg.vals] at hj; subst hj; exact c3
    | 4 => simp [Msg.vals] at hj; subst hj; exact c4
    | 5 => simp [Msg.vals] at hj; subst hj; exact c5
    | 6 => simp [Msg.vals] at hj; subst hj; exact c6
    | k + 7 => simp [Msg.vals] at hj
  have hfn : ∃ f : Nat → Msg, ∀ i, i < len → ∀ j v, (f i).vals[j]? = some v → w.cell? (a.add (i * 7 + j)) = some v :=
    ⟨fun i => if h : i < len then (key i h).choose else ⟨0, 0, 0, 0, 0, 0, ⟨#[]⟩⟩, fun i hil => by simp only [hil, dif_pos]; exact (key i hil).choose_spec⟩
  obtain ⟨f, hf⟩ := hfn
  refine ⟨_, (List.range len).map f, rfl, ?_, by simp; omega⟩
  have := Arg.rows (w := w) (x := a) (cap := cap) (sz := 7) (xs := ((List.range len).map f).map Msg.vals) hl (by simp) (by omega)
    (fun e he => by obtain ⟨m, _, rfl⟩ := List.mem_map.1 he; rfl) (fun e he v hv => by obtain ⟨m, _, rfl⟩ := List.mem_map.1 he; simp [Msg.vals] at hv; rcases hv with rfl | rfl | rfl | rfl | rfl | rfl | rfl <;> rfl)
    (fun i j e v h1 h2 => by
      have hil : i < len := by have := (List.getElem?_eq_some_iff.1 h1).1; simpa using this
      simp [hil] at h1
      subst h1
      exact hf i hil j v h2)
  have e : (((List.range len).map f).map Msg.vals).map (fun e => e.map AV.v) = encM ((List.range len).map f) := by
    rw [List.map_map]
    rfl
  rw [e] at this
  exact this

/-- A message by value. -/
theorem argMsg {H : Type} {enc : TypeId × Value → H} {w : World} {spare : Nat → Bool} {held : Bool} {r : Reach} {b0 : Nat} {v : Value} {d : DataW H} {p : List MemPlace}
    (hv : Value.okWide Try.prog w r b0 44 v) (h : DataW.Trod enc Try.prog w 0 spare held 44 v d p) : ∃ m : Msg, v = .agg m.vals.toArray ∧ Arg w (.agg m.enc) v := by
  obtain ⟨cs, rfl, hsz⟩ := okWide_struct Try.underlying44 hv
  obtain ⟨l⟩ := cs
  have hsz' := hsz.trans cells44
  obtain ⟨fuel, hf0⟩ := h
  obtain ⟨ys, n', _, _, _, hyl, hf⟩ := DataW.trod_struct Try.underlying44 hf0
  match l, hsz', ys, hyl, hf with
  | [x0, x1, x2, x3, x4, x5, x6], _, [y0, y1, y2, y3, y4, y5, y6], _, hf =>
  have t0 : DataW.trod enc Try.prog w 0 spare held n' 3 (([x0, x1, x2, x3, x4, x5, x6].drop 0).take (Try.prog.cellsOf 3)) = some y0 := hf 0 _ rfl
  have t1 : DataW.trod enc Try.prog w 0 spare held n' 3 (([x0, x1, x2, x3, x4, x5, x6].drop 1).take (Try.prog.cellsOf 3)) = some y1 := hf 1 _ rfl
  have t2 : DataW.trod enc Try.prog w 0 spare held n' 3 (([x0, x1, x2, x3, x4, x5, x6].drop 2).take (Try.prog.cellsOf 3)) = some y2 := hf 2 _ rfl
  have t3 : DataW.trod enc Try.prog w 0 spare held n' 3 (([x0, x1, x2, x3, x4, x5, x6].drop 3).take (Try.prog.cellsOf 3)) = some y3 := hf 3 _ rfl
  have t4 : DataW.trod enc Try.prog w 0 spare held n' 3 (([x0, x1, x2, x3, x4, x5, x6].drop 4).take (Try.prog.cellsOf 3)) = some y4 := hf 4 _ rfl
  have t5 : DataW.trod enc Try.prog w 0 spare held n' 3 (([x0, x1, x2, x3, x4, x5, x6].drop 5).take (Try.prog.cellsOf 3)) = some y5 := hf 5 _ rfl
  have t6 : DataW.trod enc Try.prog w 0 spare held n' 9 (([x0, x1, x2, x3, x4, x5, x6].drop 6).take (Try.prog.cellsOf 9)) = some y6 := hf 6 _ rfl
  simp only [cells3, cells9, List.drop_zero, List.drop_succ_cons, List.take_succ_cons, List.take_zero, List.getElem?_cons_zero, List.getElem?_cons_succ] at t0 t1 t2 t3 t4 t5 t6
  obtain ⟨n0, e0, _⟩ := DataW.trod_int Try.underlying3 t0
  obtain ⟨n1, e1, _⟩ := DataW.trod_int Try.underlying3 t1
  obtain ⟨n2, e2, _⟩ := DataW.trod_int Try.underlying3 t2
  obtain ⟨n3, e3, _⟩ := DataW.trod_int Try.underlying3 t3
  obtain ⟨n4, e4, _⟩ := DataW.trod_int Try.underlying3 t4
  obtain ⟨n5, e5, _⟩ := DataW.trod_int Try.underlying3 t5
  obtain ⟨s6, e6, _⟩ := DataW.trod_string Try.underlying9 t6
  simp only [List.cons.injEq, and_true] at e0 e1 e2 e3 e4 e5 e6
  subst e0 e1 e2 e3 e4 e5 e6
  refine ⟨⟨n0, n1, n2, n3, n4, n5, s6⟩, rfl, .agg rfl fun i x u h1 h2 => ?_⟩
  match i with
  | 0 => simp [Msg.enc] at h1 h2; subst h1 h2; exact .v _
  | 1 => simp [Msg.enc] at h1 h2; subst h1 h2; exact .v _
  | 2 => simp [Msg.enc] at h1 h2; subst h1 h2; exact .v _
  | 3 => simp [Msg.enc] at h1 h2; subst h1 h2; exact .v _
  | 4 => simp [Msg.enc] at h1 h2; subst h1 h2; exact .v _
  | 5 => simp [Msg.enc] at h1 h2; subst h1 h2; exact .v _
  | 6 => simp [Msg.enc] at h1 h2; subst h1 h2; exact .v _
  | k + 7 => simp [Msg.enc] at h1
end Go.Eng
