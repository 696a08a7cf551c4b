/-
  DeadRaw: for every input the law returns true, and its arguments read as they did.
  No condition. (The frame was written by the kit's shell program and turned to a struct of a slice; the walk is this work's.)
-/
import Derived.Test.YteonhcjaekodkaaRows
import Derived.WalkKit
import Derived.ProofKit
import Derived.OpenShut
import Derived.ShutString
import Derived.ChangeOld
import Derived.Below
import Derived.Lib.SmallJoins
import Derived.Test.YteonhcjaekodkaaDed9
import Derived.Test.YteonhcjaekodkaaMsgArg
set_option linter.all false
namespace Go.Proofs.Yteonhcjaekodkaa.deadRaw
open Go.ChangeShapes Go.WideShapes Go.ChangeAt Go.RowKit
open Go.ChangeMaps (open_string shut_string)
set_option linter.unusedVariables false

theorem own : ownKnob Try.prog.godebug = none := by kernel_rfl
theorem laidOut : laidOutB Try.prog = true := by kernel_rfl

theorem argD {w : World} {c : Int} {ms : List Eng.Msg} {u : Value} (h : Eng.Arg w (Eng.slM ms) u) : Eng.Arg w (Eng.deadA c ms) (.agg #[.int .i64 c, u]) := by
  refine .agg rfl fun i x v h1 h2 => ?_
  match i with
  | 0 => simp at h1 h2; subst h1 h2; exact Eng.Arg.val w _
  | 1 => simp at h1 h2; subst h1 h2; exact h
  | n + 2 => simp at h1

theorem walk (c : Int) (ms ls : List Eng.Msg) (u0 u1 : Value) (a2 a3 : Int) (w : World) (w0 : Eng.Arg w (Eng.slM ms) u0) (l0 : ms.length ≤ maxLen) (w1 : Eng.Arg w (Eng.slM ls) u1) (l1 : ls.length ≤ maxLen) :
    Calls Try.prog 9 #[.agg #[.int .i64 c, u0], u1, .int .i64 a2, .int .i64 a3] w fun e w' => e = .returned (.bool true) ∧ Below w.heap.size w w' := by
  refine (Eng.fn9 c ms ls a2 a3 (Nat.le_trans l0 (by decide)) (Nat.le_trans l1 (by decide))).said w _ rfl fun i x u h1 h2 => ?_
  match i with
  | 0 => simp at h1 h2; subst h1 h2; exact argD w0
  | 1 => simp at h1 h2; subst h1 h2; exact w1
  | 2 => simp at h1 h2; subst h1 h2; exact Eng.Arg.val w _
  | 3 => simp at h1 h2; subst h1 h2; exact Eng.Arg.val w _
  | n + 4 => simp at h1

set_option maxRecDepth 100000 in
theorem lifted (os : Os) (started : os.Started) (H : Type) (enc : TypeId × Value → H) :
    ReturnsInHanded {} Try.checked os 9 .any (Rows.deadRawSpec.pre6 enc Try.prog Try.f9 Rows.deadRawRow.domain false) (Rows.deadRawSpec.post enc Try.prog Try.f9 false true false false) := by
  refine returnsInHanded_of_change (C := Try.checked) own started (by kernel_rfl) Try.func9
    (ChangeSpec.witness6 (enc := enc) (C := Try.checked) false ⟨#[], #[.agg #[.int .i64 0, .slice none 0 0], .slice none 0 0, .int .i64 0, .int .i64 0], []⟩ 8 (by kernel_rfl) (by kernel_rfl) (by kernel_rfl) (by kernel_rfl)) ?_
  intro W base args ds gs before hval0 hW hcnd _
  have hval : ∀ (j : Nat) t v, Try.f9.params[j]? = some t → args[j]? = some v → Value.okWide Try.prog W .any base t v := hval0
  have hW' := hW
  obtain ⟨p, q, hA0, hV, rfl, hfz, hnd⟩ := hW
  have hA : DataW.TrodAll enc Try.prog W 0 (fun _ => true) true Try.f9.params.toList args.toList ds p := hA0
  rw [Try.params9] at hA hval
  obtain ⟨v0, vs0, d0, ds0, p0, q0, hargs, rfl, rfl, h0, r0⟩ := trodAll_cons hA
  obtain ⟨v1, vs1, d1, ds1, p1, q1, rfl, rfl, rfl, h1, r1⟩ := trodAll_cons r0
  obtain ⟨v2, vs2, d2, ds2, p2, q2, rfl, rfl, rfl, h2, r2⟩ := trodAll_cons r1
  obtain ⟨v3, vs3, d3, ds3, p3, q3, rfl, rfl, rfl, h3, r3⟩ := trodAll_cons r2
  obtain ⟨rfl, rfl, rfl⟩ := trodAll_nil r3
  obtain rfl : args = #[v0, v1, v2, v3] := by cases args; simp_all
  obtain ⟨rfl, rfl⟩ := trodVars_none hV
  have k0 := h0
  have lt0 : ∀ x ∈ p0, x.block < W.heap.size := by obtain ⟨m, hm⟩ := k0; exact DataW.trod_lt m _ _ _ hm
  have k1 := h1
  have lt1 : ∀ x ∈ p1, x.block < W.heap.size := by obtain ⟨m, hm⟩ := k1; exact DataW.trod_lt m _ _ _ hm
  obtain ⟨c0, ms, u0, rfl, w0, l0⟩ : ∃ (c : Int) (ms : List Eng.Msg) (u : Value), v0 = .agg #[.int .i64 c, u] ∧ Eng.Arg W (Eng.slM ms) u ∧ ms.length ≤ maxLen := by
    obtain ⟨x0, x1, y0, y1, n, rfl, _, _, t0, t1⟩ := Go.Joins.open_agg2 Try.underlying52 (by kernel_rfl) (by kernel_rfl) (hval 0 52 v0 rfl rfl) h0
    obtain ⟨c, e0, _⟩ := DataW.trod_int Try.underlying3 t0
    obtain ⟨u, ms, e1, hu, hl⟩ := Eng.argM t1
    simp only [List.cons.injEq, and_true] at e0 e1
    subst e0 e1
    exact ⟨c, ms, _, rfl, hu, hl⟩
  obtain ⟨a1, len1, cap1, rfl⟩ := okWide_slice Try.underlying38 (hval 1 38 v1 rfl rfl)
  obtain ⟨ls, w1, l1⟩ : ∃ ls : List Eng.Msg, Eng.Arg W (Eng.slM ls) (.slice a1 len1 cap1) ∧ ls.length ≤ maxLen := by
    obtain ⟨fuel, hf⟩ := h1
    obtain ⟨u, ms, e1, hu, hl⟩ := Eng.argM hf
    simp only [Value.cells, List.cons.injEq, and_true] at e1
    subst e1
    exact ⟨ms, hu, hl⟩
  obtain ⟨a2, rfl, rfl, rfl, w2⟩ := open_int Try.underlying3 (hval 2 3 v2 rfl rfl) h2
  obtain ⟨a3, rfl, rfl, rfl, w3⟩ := open_int Try.underlying3 (hval 3 3 v3 rfl rfl) h3
  clear hA0 hval0
  refine (walk c0 ms ls u0 _ a2 a3 W w0 l0 w1 l1).mono fun e W' ⟨he, bel⟩ => ?_
  subst he
  exact ⟨_, rfl, _, _, _, [], _, [], hW', trodAll_mk1 (shut_bool Try.underlying4 _), (trodAll_cons_mk (Below.trod laidOut (by kernel_rfl) (of_decide_eq_true (by kernel_rfl)) k0 bel lt0) (trodAll_cons_mk (Below.trod laidOut (by kernel_rfl) (of_decide_eq_true (by kernel_rfl)) k1 bel lt1) (trodAll_cons_mk (shut_int Try.underlying3 w2) (trodAll_cons_mk (shut_int Try.underlying3 w3) trodAll_mk0)))), rfl, bel.frame _, fun h => by cases h⟩

theorem over : Rows.deadRawRow.holds Try.pinned (OpenSpec.ofChange Rows.deadRawSpec) :=
  OpenClaim.holds_of_wide 9 Try.f9 rfl rfl rfl rfl rfl rfl rfl ⟨rfl, rfl, rfl, rfl, rfl⟩ rfl rfl rfl rfl rfl (by kernel_rfl) Try.func9 (by kernel_rfl)
    (of_decide_eq_true (by kernel_rfl)) (by unfold Func.isWrapper; first | (rw [if_pos (by decide +kernel)]; kernel_rfl) | (rw [if_neg (by decide +kernel)]; exact ⟨rfl, rfl⟩))
    (fun os started H enc _ => lifted os started H enc)

theorem proved : Rows.DeadRawSaid := over
#print axioms proved
end Go.Proofs.Yteonhcjaekodkaa.deadRaw
