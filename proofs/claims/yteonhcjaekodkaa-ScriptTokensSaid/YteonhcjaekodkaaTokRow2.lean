/-
  ScriptTokens: for every input the law returns true, and its arguments read as they did.
  No condition. (The frame was written by the kit's shell program and turned to a struct of two numbers and bytes; the walk is this work's.)
-/
import Derived.Test.YteonhcjaekodkaaRows
import Derived.WalkKit
import Derived.ProofKit
import Derived.OpenShut
import Derived.ShutString
import Derived.ChangeOld
import Derived.Below
import Derived.Lib.SmallJoins
import Derived.Test.YteonhcjaekodkaaTok7
import Derived.Test.YteonhcjaekodkaaTok9
set_option linter.all false
namespace Go.Proofs.Yteonhcjaekodkaa.scriptTokens
open Go.ChangeShapes Go.WideShapes Go.ChangeAt Go.RowKit
open Go.ChangeMaps (open_string shut_string)
set_option linter.unusedVariables false

theorem own : ownKnob Try.prog.godebug = none := by kernel_rfl
theorem laidOut : laidOutB Try.prog = true := by kernel_rfl

theorem walk (i v : Int) (rw : List UInt8) (raw : List (List UInt8)) (l : List Int) (u0 u1 u2 : Value) (w : World) (w0 : Eng.Arg w (Eng.bsl rw) u0) (w1 : Eng.Arg w (.sl 1 (Eng.encBB raw)) u1) (w2 : Eng.Arg w (.sl 1 (Eng.encI l)) u2) :
    Calls Try.prog 13 #[.agg #[.int .i64 i, .int .i64 v, u0], u1, u2] w fun e w' => e = .returned (.bool true) ∧ Below w.heap.size w w' := by
  refine (Eng.fn13 i v rw raw l).said w _ rfl fun k x u h1 h2 => ?_
  match k with
  | 0 =>
    simp at h1 h2
    subst h1 h2
    refine .agg rfl fun k x u h1 h2 => ?_
    match k with
    | 0 => simp at h1 h2; subst h1 h2; exact Eng.Arg.val w _
    | 1 => simp at h1 h2; subst h1 h2; exact Eng.Arg.val w _
    | 2 => simp at h1 h2; subst h1 h2; exact w0
    | n + 3 => simp at h1
  | 1 => simp at h1 h2; subst h1 h2; exact w1
  | 2 => simp at h1 h2; subst h1 h2; exact w2
  | n + 3 => simp at h1

set_option maxRecDepth 100000 in
theorem lifted (os : Os) (started : os.Started) (H : Type) (enc : TypeId × Value → H) :
    ReturnsInHanded {} Try.checked os 13 .any (Rows.scriptTokensSpec.pre6 enc Try.prog Try.f13 Rows.scriptTokensRow.domain false) (Rows.scriptTokensSpec.post enc Try.prog Try.f13 false true false false) := by
  refine returnsInHanded_of_change (C := Try.checked) own started (by kernel_rfl) Try.func13
    (ChangeSpec.witness6 (enc := enc) (C := Try.checked) false ⟨#[], #[.agg #[.int .i64 0, .int .i64 0, .slice none 0 0], .slice none 0 0, .slice none 0 0], []⟩ 8 (by kernel_rfl) (by kernel_rfl) (by kernel_rfl) (by kernel_rfl)) ?_
  intro W base args ds gs before hval0 hW hcnd _
  have hval : ∀ (j : Nat) t v, Try.f13.params[j]? = some t → args[j]? = some v → Value.okWide Try.prog W .any base t v := hval0
  have hW' := hW
  obtain ⟨p, q, hA0, hV, rfl, hfz, hnd⟩ := hW
  have hA : DataW.TrodAll enc Try.prog W 0 (fun _ => true) true Try.f13.params.toList args.toList ds p := hA0
  rw [Try.params13] at hA hval
  obtain ⟨v0, vs0, d0, ds0, p0, q0, hargs, rfl, rfl, h0, r0⟩ := trodAll_cons hA
  obtain ⟨v1, vs1, d1, ds1, p1, q1, rfl, rfl, rfl, h1, r1⟩ := trodAll_cons r0
  obtain ⟨v2, vs2, d2, ds2, p2, q2, rfl, rfl, rfl, h2, r2⟩ := trodAll_cons r1
  obtain ⟨rfl, rfl, rfl⟩ := trodAll_nil r2
  obtain rfl : args = #[v0, v1, v2] := by cases args; simp_all
  obtain ⟨rfl, rfl⟩ := trodVars_none hV
  have k0 := h0
  have lt0 : ∀ x ∈ p0, x.block < W.heap.size := by obtain ⟨m, hm⟩ := k0; exact DataW.trod_lt m _ _ _ hm
  have k1 := h1
  have lt1 : ∀ x ∈ p1, x.block < W.heap.size := by obtain ⟨m, hm⟩ := k1; exact DataW.trod_lt m _ _ _ hm
  have k2 := h2
  have lt2 : ∀ x ∈ p2, x.block < W.heap.size := by obtain ⟨m, hm⟩ := k2; exact DataW.trod_lt m _ _ _ hm
  obtain ⟨i, v, rw, u0, rfl, w0⟩ : ∃ (i v : Int) (rw : List UInt8) (u : Value), v0 = .agg #[.int .i64 i, .int .i64 v, u] ∧ Eng.Arg W (Eng.bsl rw) u := by
    obtain ⟨x0, x1, x2, y0, y1, y2, n, rfl, _, _, t0, t1, t2⟩ := Go.Joins.open_agg3 Try.underlying79 (by kernel_rfl) (by kernel_rfl) (hval 0 79 v0 rfl rfl) h0
    obtain ⟨c0, e0, _⟩ := DataW.trod_int Try.underlying3 t0
    obtain ⟨c1, e1, _⟩ := DataW.trod_int Try.underlying3 t1
    obtain ⟨u, b, e2, hu, _⟩ := Eng.argBytes t2
    simp only [List.cons.injEq, and_true] at e0 e1 e2
    subst e0 e1 e2
    exact ⟨c0, c1, b, _, rfl, hu⟩
  obtain ⟨a1, len1, cap1, rfl⟩ := okWide_slice Try.underlying27 (hval 1 27 v1 rfl rfl)
  obtain ⟨raw, w1⟩ : ∃ raw : List (List UInt8), Eng.Arg W (.sl 1 (Eng.encBB raw)) (.slice a1 len1 cap1) := by
    obtain ⟨fuel, hf⟩ := h1
    obtain ⟨u, hs, e1, hu⟩ := Eng.argBB hf
    simp only [Value.cells, List.cons.injEq, and_true] at e1
    subst e1
    exact ⟨hs, hu⟩
  obtain ⟨a2, len2, cap2, rfl⟩ := okWide_slice Try.underlying35 (hval 2 35 v2 rfl rfl)
  obtain ⟨l, w2⟩ : ∃ l : List Int, Eng.Arg W (.sl 1 (Eng.encI l)) (.slice a2 len2 cap2) := by
    obtain ⟨fuel, hf⟩ := h2
    rcases open_ints Try.underlying35 Try.underlying3 (by kernel_rfl) hf with ⟨hcs, _⟩ | ⟨x, l, c, zs, hcs, _, hl, hm, hz, _, hcell, hwz⟩
    · simp [Value.cells] at hcs
      obtain ⟨rfl, rfl, rfl⟩ := hcs
      exact ⟨[], Eng.Arg.nil W 1⟩
    · simp [Value.cells] at hcs
      obtain ⟨rfl, rfl, rfl⟩ := hcs
      exact ⟨zs.take len2, Eng.Arg.ints hl (by simpa using hz) hcell⟩
  clear hA0 hval0
  refine (walk i v rw raw l u0 _ _ W w0 w1 w2).mono fun e W' ⟨he, bel⟩ => ?_
  subst he
  exact ⟨_, rfl, _, _, _, [], _, [], hW', trodAll_mk1 (shut_bool Try.underlying4 _), (trodAll_cons_mk (Below.trod laidOut (by kernel_rfl) (of_decide_eq_true (by kernel_rfl)) k0 bel lt0) (trodAll_cons_mk (Below.trod laidOut (by kernel_rfl) (of_decide_eq_true (by kernel_rfl)) k1 bel lt1) (trodAll_cons_mk (Below.trod laidOut (by kernel_rfl) (of_decide_eq_true (by kernel_rfl)) k2 bel lt2) trodAll_mk0))), rfl, bel.frame _, fun h => by cases h⟩

theorem over : Rows.scriptTokensRow.holds Try.pinned (OpenSpec.ofChange Rows.scriptTokensSpec) :=
  OpenClaim.holds_of_wide 13 Try.f13 rfl rfl rfl rfl rfl rfl rfl ⟨rfl, rfl, rfl, rfl, rfl⟩ rfl rfl rfl rfl rfl (by kernel_rfl) Try.func13 (by kernel_rfl)
    (of_decide_eq_true (by kernel_rfl)) (by unfold Func.isWrapper; first | (rw [if_pos (by decide +kernel)]; kernel_rfl) | (rw [if_neg (by decide +kernel)]; exact ⟨rfl, rfl⟩))
    (fun os started H enc _ => lifted os started H enc)

theorem proved : Rows.ScriptTokensSaid := over
#print axioms proved
end Go.Proofs.Yteonhcjaekodkaa.scriptTokens
