/-
  ScriptForges: for every input the law returns true, and its arguments read as they did.
  No condition. (The frame was written by the kit's shell program and turned to a struct of four numbers; the walk is this work's.)
-/
import Derived.Test.YteonhcjaekodkaaRows
import Derived.WalkKit
import Derived.ProofKit
import Derived.OpenShut
import Derived.ShutString
import Derived.ChangeOld
import Derived.Below
import Derived.Lib.SmallJoins
import Derived.Test.YteonhcjaekodkaaTok8
import Derived.Test.YteonhcjaekodkaaMsgArg
set_option linter.all false
namespace Go.Proofs.Yteonhcjaekodkaa.scriptForges
open Go.ChangeShapes Go.WideShapes Go.ChangeAt Go.RowKit
open Go.ChangeMaps (open_string shut_string)
set_option linter.unusedVariables false

theorem own : ownKnob Try.prog.godebug = none := by kernel_rfl
theorem laidOut : laidOutB Try.prog = true := by kernel_rfl

theorem walk (h : Eng.Hd) (w : World) :
    Calls Try.prog 14 #[.agg #[.int .i64 h.id, .int .i64 h.gen, .int .i64 h.route, .int .i64 h.hint]] w fun e w' => e = .returned (.bool true) ∧ Below w.heap.size w w' := by
  refine (Eng.fn14 h).said w _ rfl fun i x u h1 h2 => ?_
  match i with
  | 0 =>
    simp at h1 h2
    subst h1 h2
    refine .agg rfl fun i x u h1 h2 => ?_
    match i with
    | 0 => simp [Eng.Hd.enc] at h1 h2; subst h1 h2; exact Eng.Arg.val w _
    | 1 => simp [Eng.Hd.enc] at h1 h2; subst h1 h2; exact Eng.Arg.val w _
    | 2 => simp [Eng.Hd.enc] at h1 h2; subst h1 h2; exact Eng.Arg.val w _
    | 3 => simp [Eng.Hd.enc] at h1 h2; subst h1 h2; exact Eng.Arg.val w _
    | n + 4 => simp [Eng.Hd.enc] at h1
  | n + 1 => simp at h1

set_option maxRecDepth 100000 in
theorem lifted (os : Os) (started : os.Started) (H : Type) (enc : TypeId × Value → H) :
    ReturnsInHanded {} Try.checked os 14 .any (Rows.scriptForgesSpec.pre6 enc Try.prog Try.f14 Rows.scriptForgesRow.domain false) (Rows.scriptForgesSpec.post enc Try.prog Try.f14 false true false false) := by
  refine returnsInHanded_of_change (C := Try.checked) own started (by kernel_rfl) Try.func14
    (ChangeSpec.witness6 (enc := enc) (C := Try.checked) false ⟨#[], #[.agg #[.int .i64 0, .int .i64 0, .int .i64 0, .int .i64 0]], []⟩ 8 (by kernel_rfl) (by kernel_rfl) (by kernel_rfl) (by kernel_rfl)) ?_
  intro W base args ds gs before hval0 hW hcnd _
  have hval : ∀ (j : Nat) t v, Try.f14.params[j]? = some t → args[j]? = some v → Value.okWide Try.prog W .any base t v := hval0
  have hW' := hW
  obtain ⟨p, q, hA0, hV, rfl, hfz, hnd⟩ := hW
  have hA : DataW.TrodAll enc Try.prog W 0 (fun _ => true) true Try.f14.params.toList args.toList ds p := hA0
  rw [Try.params14] at hA hval
  obtain ⟨v0, vs0, d0, ds0, p0, q0, hargs, rfl, rfl, h0, r0⟩ := trodAll_cons hA
  obtain ⟨rfl, rfl, rfl⟩ := trodAll_nil r0
  obtain rfl : args = #[v0] := by cases args; simp_all
  obtain ⟨rfl, rfl⟩ := trodVars_none hV
  have k0 := h0
  have lt0 : ∀ x ∈ p0, x.block < W.heap.size := by obtain ⟨m, hm⟩ := k0; exact DataW.trod_lt m _ _ _ hm
  obtain ⟨h, rfl⟩ : ∃ h : Eng.Hd, v0 = .agg #[.int .i64 h.id, .int .i64 h.gen, .int .i64 h.route, .int .i64 h.hint] := by
    obtain ⟨x0, x1, x2, x3, y0, y1, y2, y3, n, rfl, _, _, t0, t1, t2, t3⟩ := Go.Joins.open_agg4 Try.underlying83 (by kernel_rfl) (by kernel_rfl) (hval 0 83 v0 rfl rfl) h0
    obtain ⟨c0, e0, _⟩ := DataW.trod_int Try.underlying3 t0
    obtain ⟨c1, e1, _⟩ := DataW.trod_int Try.underlying3 t1
    obtain ⟨c2, e2, _⟩ := DataW.trod_int Try.underlying3 t2
    obtain ⟨c3, e3, _⟩ := DataW.trod_int Try.underlying3 t3
    simp only [List.cons.injEq, and_true] at e0 e1 e2 e3
    subst e0 e1 e2 e3
    exact ⟨⟨c0, c1, c2, c3⟩, rfl⟩
  clear hA0 hval0
  refine (walk h W).mono fun e W' ⟨he, bel⟩ => ?_
  subst he
  exact ⟨_, rfl, _, _, _, [], _, [], hW', trodAll_mk1 (shut_bool Try.underlying4 _), (trodAll_cons_mk (Below.trod laidOut (by kernel_rfl) (of_decide_eq_true (by kernel_rfl)) k0 bel lt0) trodAll_mk0), rfl, bel.frame _, fun h => by cases h⟩

theorem over : Rows.scriptForgesRow.holds Try.pinned (OpenSpec.ofChange Rows.scriptForgesSpec) :=
  OpenClaim.holds_of_wide 14 Try.f14 rfl rfl rfl rfl rfl rfl rfl ⟨rfl, rfl, rfl, rfl, rfl⟩ rfl rfl rfl rfl rfl (by kernel_rfl) Try.func14 (by kernel_rfl)
    (of_decide_eq_true (by kernel_rfl)) (by unfold Func.isWrapper; first | (rw [if_pos (by decide +kernel)]; kernel_rfl) | (rw [if_neg (by decide +kernel)]; exact ⟨rfl, rfl⟩))
    (fun os started H enc _ => lifted os started H enc)

theorem proved : Rows.ScriptForgesSaid := over
#print axioms proved
end Go.Proofs.Yteonhcjaekodkaa.scriptForges
