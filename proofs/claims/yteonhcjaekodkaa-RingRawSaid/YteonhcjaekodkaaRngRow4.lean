/-
  RingRaw: for every input the law returns true, and its arguments read as they did.
  No condition. (The frame was written by the kit's shell program and turned to a struct of a slice; the walk is this work's.)
-/
import Derived.Test.YteonhcjaekodkaaRows
import Derived.WalkKit
import Derived.ProofKit
import Derived.OpenShut
import Derived.ShutString
import Derived.ChangeOld
import Derived.Below
import Derived.Lib.SmallJoins
import Derived.Test.YteonhcjaekodkaaRng15
import Derived.Test.YteonhcjaekodkaaMsgArg
set_option linter.all false
namespace Go.Proofs.Yteonhcjaekodkaa.ringRaw
open Go.ChangeShapes Go.WideShapes Go.ChangeAt Go.RowKit
open Go.ChangeMaps (open_string shut_string)
set_option linter.unusedVariables false

theorem own : ownKnob Try.prog.godebug = none := by kernel_rfl
theorem laidOut : laidOutB Try.prog = true := by kernel_rfl

theorem argR {w : World} {cs : List Eng.Msg} {h n : Int} {u : Value} (hu : Eng.Arg w (Eng.slM cs) u) : Eng.Arg w (Eng.ringA cs h n) (.agg #[u, .int .i64 h, .int .i64 n]) := by
  refine .agg rfl fun i x v h1 h2 => ?_
  match i with
  | 0 => simp at h1 h2; subst h1 h2; exact hu
  | 1 => simp at h1 h2; subst h1 h2; exact Eng.Arg.val w _
  | 2 => simp at h1 h2; subst h1 h2; exact Eng.Arg.val w _
  | n + 3 => simp at h1

theorem walk (cs ls : List Eng.Msg) (h n : Int) (m : Eng.Msg) (u0 u1 u4 : Value) (a2 a3 a5 : Int) (w : World) (w0 : Eng.Arg w (Eng.slM cs) u0) (w1 : Eng.Arg w (.agg m.enc) u1) (w4 : Eng.Arg w (Eng.slM ls) u4) :
    Calls Try.prog 11 #[.agg #[u0, .int .i64 h, .int .i64 n], u1, .int .i64 a2, .int .i64 a3, u4, .int .i64 a5] w fun e w' => e = .returned (.bool true) ∧ Below w.heap.size w w' := by
  refine (Eng.fn11 cs h n m a2 a3 ls a5).said w _ rfl fun i x u h1 h2 => ?_
  match i with
  | 0 => simp at h1 h2; subst h1 h2; exact argR w0
  | 1 => simp at h1 h2; subst h1 h2; exact w1
  | 2 => simp at h1 h2; subst h1 h2; exact Eng.Arg.val w _
  | 3 => simp at h1 h2; subst h1 h2; exact Eng.Arg.val w _
  | 4 => simp at h1 h2; subst h1 h2; exact w4
  | 5 => simp at h1 h2; subst h1 h2; exact Eng.Arg.val w _
  | n + 6 => simp at h1

set_option maxRecDepth 100000 in
theorem lifted (os : Os) (started : os.Started) (H : Type) (enc : TypeId × Value → H) :
    ReturnsInHanded {} Try.checked os 11 .any (Rows.ringRawSpec.pre6 enc Try.prog Try.f11 Rows.ringRawRow.domain false) (Rows.ringRawSpec.post enc Try.prog Try.f11 false true false false) := by
  refine returnsInHanded_of_change (C := Try.checked) own started (by kernel_rfl) Try.func11
    (ChangeSpec.witness6 (enc := enc) (C := Try.checked) false ⟨#[], #[.agg #[.slice none 0 0, .int .i64 0, .int .i64 0], .agg #[.int .i64 0, .int .i64 0, .int .i64 0, .int .i64 0, .int .i64 0, .int .i64 0, .string ⟨#[]⟩], .int .i64 0, .int .i64 0, .slice none 0 0, .int .i64 0], []⟩ 8 (by kernel_rfl) (by kernel_rfl) (by kernel_rfl) (by kernel_rfl)) ?_
  intro W base args ds gs before hval0 hW hcnd _
  have hval : ∀ (j : Nat) t v, Try.f11.params[j]? = some t → args[j]? = some v → Value.okWide Try.prog W .any base t v := hval0
  have hW' := hW
  obtain ⟨p, q, hA0, hV, rfl, hfz, hnd⟩ := hW
  have hA : DataW.TrodAll enc Try.prog W 0 (fun _ => true) true Try.f11.params.toList args.toList ds p := hA0
  rw [Try.params11] at hA hval
  obtain ⟨v0, vs0, d0, ds0, p0, q0, hargs, rfl, rfl, h0, r0⟩ := trodAll_cons hA
  obtain ⟨v1, vs1, d1, ds1, p1, q1, rfl, rfl, rfl, h1, r1⟩ := trodAll_cons r0
  obtain ⟨v2, vs2, d2, ds2, p2, q2, rfl, rfl, rfl, h2, r2⟩ := trodAll_cons r1
  obtain ⟨v3, vs3, d3, ds3, p3, q3, rfl, rfl, rfl, h3, r3⟩ := trodAll_cons r2
  obtain ⟨v4, vs4, d4, ds4, p4, q4, rfl, rfl, rfl, h4, r4⟩ := trodAll_cons r3
  obtain ⟨v5, vs5, d5, ds5, p5, q5, rfl, rfl, rfl, h5, r5⟩ := trodAll_cons r4
  obtain ⟨rfl, rfl, rfl⟩ := trodAll_nil r5
  obtain rfl : args = #[v0, v1, v2, v3, v4, v5] := by cases args; simp_all
  obtain ⟨rfl, rfl⟩ := trodVars_none hV
  have k0 := h0
  have lt0 : ∀ x ∈ p0, x.block < W.heap.size := by obtain ⟨m, hm⟩ := k0; exact DataW.trod_lt m _ _ _ hm
  have k1 := h1
  have lt1 : ∀ x ∈ p1, x.block < W.heap.size := by obtain ⟨m, hm⟩ := k1; exact DataW.trod_lt m _ _ _ hm
  have k4 := h4
  have lt4 : ∀ x ∈ p4, x.block < W.heap.size := by obtain ⟨m, hm⟩ := k4; exact DataW.trod_lt m _ _ _ hm
  obtain ⟨cs, hd, sz, u0, rfl, w0⟩ : ∃ (cs : List Eng.Msg) (h n : Int) (u : Value), v0 = .agg #[u, .int .i64 h, .int .i64 n] ∧ Eng.Arg W (Eng.slM cs) u := by
    obtain ⟨x0, x1, x2, y0, y1, y2, n, rfl, _, _, t0, t1, t2⟩ := Go.Joins.open_agg3 Try.underlying40 (by kernel_rfl) (by kernel_rfl) (hval 0 40 v0 rfl rfl) h0
    obtain ⟨u, ms, e0, hu, _⟩ := Eng.argM t0
    obtain ⟨c1, e1, _⟩ := DataW.trod_int Try.underlying3 t1
    obtain ⟨c2, e2, _⟩ := DataW.trod_int Try.underlying3 t2
    simp only [List.cons.injEq, and_true] at e0 e1 e2
    subst e0 e1 e2
    exact ⟨ms, c1, c2, _, rfl, hu⟩
  obtain ⟨m, hm, w1⟩ := Eng.argMsg (hval 1 44 v1 rfl rfl) h1
  obtain ⟨a4, len4, cap4, rfl⟩ := okWide_slice Try.underlying38 (hval 4 38 v4 rfl rfl)
  obtain ⟨ls, w4⟩ : ∃ ls : List Eng.Msg, Eng.Arg W (Eng.slM ls) (.slice a4 len4 cap4) := by
    obtain ⟨fuel, hf⟩ := h4
    obtain ⟨u, ms, e1, hu, hl⟩ := Eng.argM hf
    simp only [Value.cells, List.cons.injEq, and_true] at e1
    subst e1
    exact ⟨ms, hu⟩
  obtain ⟨a2, rfl, rfl, rfl, w2⟩ := open_int Try.underlying3 (hval 2 3 v2 rfl rfl) h2
  obtain ⟨a3, rfl, rfl, rfl, w3⟩ := open_int Try.underlying3 (hval 3 3 v3 rfl rfl) h3
  obtain ⟨a5, rfl, rfl, rfl, w5⟩ := open_int Try.underlying3 (hval 5 3 v5 rfl rfl) h5
  clear hA0 hval0
  refine (walk cs ls hd sz m u0 v1 _ a2 a3 a5 W w0 w1 w4).mono fun e W' ⟨he, bel⟩ => ?_
  subst he
  exact ⟨_, rfl, _, _, _, [], _, [], hW', trodAll_mk1 (shut_bool Try.underlying4 _), (trodAll_cons_mk (Below.trod laidOut (by kernel_rfl) (of_decide_eq_true (by kernel_rfl)) k0 bel lt0) (trodAll_cons_mk (Below.trod laidOut (by kernel_rfl) (of_decide_eq_true (by kernel_rfl)) k1 bel lt1) (trodAll_cons_mk (shut_int Try.underlying3 w2) (trodAll_cons_mk (shut_int Try.underlying3 w3) (trodAll_cons_mk (Below.trod laidOut (by kernel_rfl) (of_decide_eq_true (by kernel_rfl)) k4 bel lt4) (trodAll_cons_mk (shut_int Try.underlying3 w5) trodAll_mk0)))))), rfl, bel.frame _, fun h => by cases h⟩

theorem over : Rows.ringRawRow.holds Try.pinned (OpenSpec.ofChange Rows.ringRawSpec) :=
  OpenClaim.holds_of_wide 11 Try.f11 rfl rfl rfl rfl rfl rfl rfl ⟨rfl, rfl, rfl, rfl, rfl⟩ rfl rfl rfl rfl rfl (by kernel_rfl) Try.func11 (by kernel_rfl)
    (of_decide_eq_true (by kernel_rfl)) (by unfold Func.isWrapper; first | (rw [if_pos (by decide +kernel)]; kernel_rfl) | (rw [if_neg (by decide +kernel)]; exact ⟨rfl, rfl⟩))
    (fun os started H enc _ => lifted os started H enc)

theorem proved : Rows.RingRawSaid := over
#print axioms proved
end Go.Proofs.Yteonhcjaekodkaa.ringRaw
