/-
  The engine, part 3c: the operations that only compute, or read.
  No condition: lemmas.
-/
import Derived.Test.YteonhcjaekodkaaEng3b
set_option linter.all false
namespace Go.Eng
open Go
section
variable {P : Program} {C : Ctx} {ρ : Nat → Loc} {U : Nat → Prop} {h : List (Nat × Ob)} {w : World} {nm : Nat} {t : List (Nat × AV)} {a : Act} {o : Oper} {e : E}

theorem s_mov (hr : HR C ρ U h w) (ht : Tm C ρ U w t a) {x : Operand} (ho : o.op = .move x ∨ o.op = .assign x) (he : eff nm t h (.mov x) = some e) :
    Run C ρ U h w nm ((execOp a.eval o).run P w) e := by
  simp only [eff] at he
  split at he
  · rename_i y hy
    simp only [E.ok, Option.some.injEq] at he; subst he
    have hv := ev_ok ht hy
    rcases ho with ho | ho <;> (simp only [execOp, ho, Sem.run_pure]; exact .same hr hv True)
  · cases he

theorem s_pick (hr : HR C ρ U h w) (ht : Tm C ρ U w t a) {c x y : Operand} (ho : o.op = .pick c x y) (he : eff nm t h (.pick c x y) = some e) :
    Run C ρ U h w nm ((execOp a.eval o).run P w) e := by
  simp only [eff] at he
  split at he
  · rename_i hc
    have hc' := (ev_ok ht hc).v_inv
    split at he
    · rename_i z hz
      simp only [E.ok, Option.some.injEq] at he; subst he
      simp only [execOp, ho, hc', asBool, Sem.run_bind, Sem.run_pure, Result.andThen_ok, if_true]
      exact .same hr (ev_ok ht hz) True
    · cases he
  · rename_i hc
    have hc' := (ev_ok ht hc).v_inv
    split at he
    · rename_i z hz
      simp only [E.ok, Option.some.injEq] at he; subst he
      simp only [execOp, ho, hc', asBool, Sem.run_bind, Sem.run_pure, Result.andThen_ok, Bool.false_eq_true, if_false]
      exact .same hr (ev_ok ht hz) True
    · cases he
  · cases he

theorem s_un (hr : HR C ρ U h w) (ht : Tm C ρ U w t a) {op : UnOp} {ty : TypeId} {x : Operand} (ho : o.op = .unOp op ty x) (he : eff nm t h (.un op x) = some e) :
    Run C ρ U h w nm ((execOp a.eval o).run P w) e := by
  simp only [eff] at he
  split at he
  · rename_i b hx
    have hc := (ev_ok ht hx).v_inv
    simp only [E.ok, Option.some.injEq] at he; subst he
    simp only [execOp, ho, hc, Op.unary, Sem.run_bind, Sem.run_pure, Result.andThen_ok]
    exact .same hr (.p (.v _)) True
  · rename_i k n hx
    have hc := (ev_ok ht hx).v_inv
    simp only [E.ok, Option.some.injEq] at he; subst he
    simp only [execOp, ho, hc, Op.unary, Op.intArith, Sem.run_bind, Sem.run_pure, Result.andThen_ok]
    exact .same hr (.p (.v _)) True
  · cases he

theorem s_ext (hr : HR C ρ U h w) (ht : Tm C ρ U w t a) {i : Nat} {x : Operand} (ho : o.op = .extract x i) (he : eff nm t h (.ext i x) = some e) :
    Run C ρ U h w nm ((execOp a.eval o).run P w) e := by
  simp only [eff] at he
  split at he
  · rename_i cs hx
    obtain ⟨vs, hu, hv⟩ := (ev_ok ht hx).tup_inv
    split at he
    · rename_i c hc
      simp only [E.ok, Option.some.injEq] at he; subst he
      have hlt : i < vs.size := by rw [← hv.1]; exact (List.getElem?_eq_some_iff.1 hc).1
      have hg : vs[i]? = some vs[i] := Array.getElem?_eq_getElem hlt
      simp only [execOp, ho, hu, Instr.extract, hg, Sem.run_bind, Sem.run_pure, Result.andThen_ok]
      exact .same hr (hv.2 i c _ hc hg) True
    · cases he
  · cases he

theorem sbin_int {op : BinOp} {ty : TypeId} {k k' : IntKind} {x y : Int} {z : Value} (hz : sbin op (.int k x) (.int k' y) = some z) (w : World) :
    (binOp op ty (.int k x) (.int k' y)).run P w = .ok z w := by
  by_cases hk : k = k'
  · subst hk
    cases op <;> simp [sbin] at hz <;> subst hz <;> first
      | (simp [binOp, Op.intArith]; done)
      | (simp [binOp, Op.intCmp]; done)
      | (simp [binOp, Op.intBits, bits]; done)
  · cases op <;> simp [sbin, hk] at hz

theorem sbin_run {op : BinOp} {ty : TypeId} {x y z : Value} (hz : sbin op x y = some z) (w : World) : (binOp op ty x y).run P w = .ok z w := by
  cases x with
  | int k n => cases y with
    | int k' m => exact sbin_int hz w
    | _ => cases op <;> simp [sbin] at hz
  | string s => cases y with
    | string s' => cases op <;> simp [sbin] at hz <;> subst hz <;> simp [binOp, Op.stringOp]
    | _ => cases op <;> simp [sbin] at hz
  | _ => cases op <;> simp [sbin] at hz

theorem sbinP_run {op : BinOp} {ty : TypeId} {x y z : Value} {p : Prop} (hz : sbinP op x y = some (p, z)) (hp : p) (w : World) : (binOp op ty x y).run P w = .ok z w := by
  cases x with
  | int k n => cases y with
    | int k' m =>
      by_cases hk : k = k'
      · subst hk
        cases op <;> simp [sbinP] at hz <;> obtain ⟨h1, rfl⟩ := hz <;> replace hp := h1.2 hp <;> first
          | (simp [binOp, Op.intDiv, hp]; done)
          | (simp [binOp, Op.shift, show ¬ m < 0 from by omega]; done)
      · cases op <;> simp [sbinP, hk] at hz <;> obtain ⟨h1, rfl⟩ := hz <;> replace hp := h1.2 hp <;> (simp [binOp, Op.shift, show ¬ m < 0 from by omega])
    | _ => cases op <;> simp [sbinP] at hz
  | string s => cases y with
    | string s' =>
      cases op <;> simp [sbinP] at hz
      obtain ⟨h1, rfl⟩ := hz
      replace hp := h1.2 hp
      unfold maxLen at hp
      simp [binOp, Op.stringOp]
      omega
    | _ => cases op <;> simp [sbinP] at hz
  | _ => cases op <;> simp [sbinP] at hz

theorem eqGuard_plain {op : BinOp} {ty : TypeId} {x y : Operand} {u v : Value} (hu : (∃ k n, u = .int k n) ∨ (∃ s, u = .string s) ∨ (∃ b, u = .bool b)) : eqGuard op ty x y u v = pure () := by
  rcases hu with ⟨k, n, rfl⟩ | ⟨s, rfl⟩ | ⟨b, rfl⟩
  · exact eqGuard_at_int ..
  · exact eqGuard_at_string ..
  · exact eqGuard_at_bool ..

theorem sbin_left {op : BinOp} {x y z : Value} (hz : sbin op x y = some z) : (∃ k n, x = .int k n) ∨ (∃ s, x = .string s) ∨ (∃ b, x = .bool b) := by
  cases x with
  | int k n => exact .inl ⟨k, n, rfl⟩
  | string s => exact .inr (.inl ⟨s, rfl⟩)
  | _ => cases op <;> simp [sbin] at hz
theorem sbinP_left {op : BinOp} {x y : Value} {z : Prop × Value} (hz : sbinP op x y = some z) : (∃ k n, x = .int k n) ∨ (∃ s, x = .string s) ∨ (∃ b, x = .bool b) := by
  cases x with
  | int k n => exact .inl ⟨k, n, rfl⟩
  | string s => exact .inr (.inl ⟨s, rfl⟩)
  | _ => cases op <;> simp [sbinP] at hz

theorem s_bin (hr : HR C ρ U h w) (ht : Tm C ρ U w t a) {op : BinOp} {ty ty' : TypeId} {x y : Operand} (ho : o.op = .binOp op ty x y ty') (he : eff nm t h (.bin op x y) = some e) (hp : e.pre) :
    Run C ρ U h w nm ((execOp a.eval o).run P w) e := by
  simp only [eff] at he
  split at he
  · rename_i u v hx hy
    have e1 := (ev_ok ht hx).v_inv
    have e2 := (ev_ok ht hy).v_inv
    split at he
    · rename_i z hz
      simp only [E.ok, Option.some.injEq] at he; subst he
      simp only [execOp, ho, e1, e2, eqGuard_plain (sbin_left hz), Sem.run_bind, Sem.run_pure, Result.andThen_ok, sbin_run hz]
      exact .same hr (.p (.v _)) True
    · split at he
      · rename_i p z hz
        simp only [Option.some.injEq] at he; subst he
        simp only [execOp, ho, e1, e2, eqGuard_plain (sbinP_left hz), Sem.run_bind, Sem.run_pure, Result.andThen_ok, sbinP_run hz hp]
        exact .same hr (.p (.v _)) p
      · cases he
  · cases he

theorem s_eqb (hr : HR C ρ U h w) (ht : Tm C ρ U w t a) {neg : Bool} {ty ty' : TypeId} {x y : Operand} (hty : P.underlying ty = some .bool)
    (ho : o.op = .binOp (if neg then .neq else .eql) ty x y ty') (he : eff nm t h (.eqb neg x y) = some e) :
    Run C ρ U h w nm ((execOp a.eval o).run P w) e := by
  simp only [eff] at he
  split at he
  · rename_i u v hx hy
    have e1 := (ev_ok ht hx).v_inv
    have e2 := (ev_ok ht hy).v_inv
    simp only [E.ok, Option.some.injEq] at he; subst he
    cases neg
    · simp only [Bool.false_eq_true, if_false] at ho ⊢
      simp only [execOp, ho, e1, e2, eqGuard_at_bool, Sem.run_bind, Sem.run_pure, Result.andThen_ok, run_eql_bool _ _ _ _ hty]
      exact .same hr (.p (.v _)) True
    · simp only [if_true] at ho ⊢
      have hb := run_eql_bool (P := P) w ty u v hty
      simp only [binOp, Sem.run_bind] at hb
      simp only [execOp, ho, e1, e2, eqGuard_at_bool, Sem.run_bind, Sem.run_pure, Result.andThen_ok, binOp]
      cases hq : (Op.equal ty (Value.bool u) (Value.bool v)).run P w with
      | ok r w' =>
        rw [hq] at hb
        simp only [Result.andThen_ok, Sem.run_pure, Result.ok.injEq, Value.bool.injEq] at hb
        obtain ⟨rfl, rfl⟩ := hb
        simp only [Result.andThen_ok, Sem.run_pure]
        exact .same hr (.p (.v _)) True
      | halt r w' => rw [hq] at hb; simp at hb
  · cases he

theorem s_conv (hr : HR C ρ U h w) (ht : Tm C ρ U w t a) {k k0 : IntKind} {src dst : TypeId} {x : Operand} (h1 : P.underlying src = some (.int k0)) (h2 : P.underlying dst = some (.int k))
    (ho : o.op = .convert src dst x) (he : eff nm t h (.conv k x) = some e) : Run C ρ U h w nm ((execOp a.eval o).run P w) e := by
  simp only [eff] at he
  split at he
  · rename_i k' n hx
    have e1 := (ev_ok ht hx).v_inv
    simp only [E.ok, Option.some.injEq] at he; subst he
    simp only [execOp, ho, e1, convert, Sem.run_bind, run_underlying h1, run_underlying h2, Result.andThen_ok, Conv.intToInt]
    exact .same hr (.p (.v _)) True
  · cases he

theorem s_mkfn (hr : HR C ρ U h w) (ht : Tm C ρ U w t a) {f : FuncId} {first caps : Array Operand} (hf : first.size = 0) (ho : o.op = .makeFunc (.func f) first caps)
    (he : eff nm t h (.mkfn f caps.toList) = some e) : Run C ρ U h w nm ((execOp a.eval o).run P w) e := by
  simp only [eff] at he
  split at he
  · rename_i cs hc
    simp only [E.ok, Option.some.injEq] at he; subst he
    have hv := evL_ok ht hc
    have e1 : first.map a.eval = #[] := by rw [Array.eq_empty_of_size_eq_zero hf]; simp
    have e2 : caps.map a.eval = (caps.toList.map a.eval).toArray := by apply Array.ext'; simp
    simp only [execOp, ho, Instr.makeFunc, e1, e2, Sem.run_bind, Sem.run_pure, Result.andThen_ok]
    exact .same hr (.fn hv.1 hv.2) True
  · cases he

end
end Go.Eng
