/-
  The engine, part 3e: addresses, new boxes, stores.
  No condition: lemmas.
-/
import Derived.Test.YteonhcjaekodkaaEng3d
set_option linter.all false
namespace Go.Eng
open Go
section
variable {P : Program} {C : Ctx} {ρ : Nat → Loc} {U : Nat → Prop} {h : List (Nat × Ob)} {w : World} {nm : Nat} {t : List (Nat × AV)} {a : Act} {o : Oper} {e : E}

theorem box_at (hr : HR C ρ U h w) {b : Nat} {cs : List AV} (hb : get h b = some (.box cs)) : ∃ g off n ety cells, ρ b = .at g off n ∧ w.heap[g]? = some (.cells cells ety (0, 0)) ∧ off + n ≤ cells.size ∧ n = cs.length ∧
      ∀ j c, cs[j]? = some c → ∃ u, cells[off + j]? = some u ∧ VR w (okc C ρ w) ρ U c u := (hr.hp b _ hb).2

theorem row_at (hr : HR C ρ U h w) {b ety sz : Nat} {xs : List (List AV)} (hb : get h b = some (.row ety sz xs)) (hx : 0 < xs.length) :
    ∃ g off n cells, ρ b = .at g off n ∧ w.heap[g]? = some (.cells cells ety (0, 0)) ∧ off + n ≤ cells.size ∧ xs.length * sz ≤ n ∧
      (∀ (k : Nat) (x : List AV), xs[k]? = some x → x.length = sz) ∧
      ∀ (k : Nat) (x : List AV) (j : Nat) (c : AV), xs[k]? = some x → x[j]? = some c → ∃ u, cells[off + (k * sz + j)]? = some u ∧ u.oneCell' = true ∧ VP w (okc C ρ w) c u := by
  rcases (hr.hp b _ hb).2 with ⟨_, h0⟩ | h0
  · subst h0; simp at hx
  · exact h0

theorem s_faddr (hr : HR C ρ U h w) (ht : Tm C ρ U w t a) {ty : TypeId} {fs : Array Field} {fi sz : Nat} {fd : Field} {x : Operand} (h1 : P.underlying ty = some (.struct fs))
    (h2 : fs[fi]? = some fd) (h3 : sizeP P fd.type = some sz) (h4 : sz ≠ 0) (ho : o.op = .fieldAddr ty x fi) (he : eff nm t h (.faddr fd.offset x) = some e) (hp : e.pre) :
    Run C ρ U h w nm ((execOp a.eval o).run P w) e := by
  have run : ∀ g off, a.eval x = .pointer (some ⟨g, off, none⟩) → (execOp a.eval o).run P w = .ok (.value (.pointer (some ⟨g, off + fd.offset, none⟩))) w := by
    intro g off hx
    simp only [execOp, ho, hx, Instr.fieldAt, Sem.run_bind, run_underlying h1, h2, Instr.sureAddr, Sem.run_pure, Result.andThen_ok, fieldPlace, run_sizeP h3, h4, if_false, add_plain]
  simp only [eff] at he
  split at he
  · rename_i b j hx
    obtain ⟨hu, ad, hax, had⟩ := (ev_ok ht hx).ptr_inv
    split at he
    · rename_i cs hb
      simp only [E.ok, Option.some.injEq] at he; subst he
      obtain ⟨g, off, n, _, _, hl, _⟩ := box_at hr hb
      have := had g off n hl
      subst this
      rw [run g (off + j) hax]
      refine .same hr (.ptr _ hu fun g' off' n' hl' => ?_) True
      rw [hl] at hl'; cases hl'
      rw [Nat.add_assoc]
    · cases he
  · rename_i b s k j hx
    obtain ⟨hu, ad, hax, had⟩ := (ev_ok ht hx).rp_inv
    split at he
    · rename_i ety s' xs hb
      simp only [Option.some.injEq] at he; subst he
      obtain ⟨g, off, n, _, hl, _⟩ := row_at hr hb (Nat.lt_of_le_of_lt (Nat.zero_le _) hp)
      have := had g off n hl
      subst this
      rw [run g _ hax]
      refine .same hr (.rp _ hu fun g' off' n' hl' => ?_) _
      rw [hl] at hl'; cases hl'
      congr 2; omega
    · cases he
  · rename_i cs j hx
    have hvp := (ev_ok ht hx).pel_inv
    cases hq : a.eval x with
    | pointer ad =>
      rw [hq] at hvp
      simp only [E.ok, Option.some.injEq] at he; subst he
      cases hvp with
      | pel g off f hok hc hv =>
        rw [run g (off + j) hq]
        rw [Nat.add_assoc]
        exact .same hr (.p (.pel g off f hok hc hv)) True
    | _ => rw [hq] at hvp; cases hvp
  · cases he

theorem s_fld (hr : HR C ρ U h w) (ht : Tm C ρ U w t a) {ty : TypeId} {fs : Array Field} {fi sz : Nat} {ag : Bool} {fd : Field} {x : Operand} (h1 : P.underlying ty = some (.struct fs))
    (h2 : fs[fi]? = some fd) (h3 : sizeP P fd.type = some sz) (h4 : aggP P fd.type = some ag) (ho : o.op = .field ty x fi) (he : eff nm t h (.fld ag fd.offset sz x) = some e) :
    Run C ρ U h w nm ((execOp a.eval o).run P w) e := by
  simp only [eff] at he
  split at he
  · rename_i cs hx
    obtain ⟨vs, hu, hv⟩ := (ev_ok ht hx).agg_inv
    split at he
    · rename_i hag
      split at he
      · rename_i hlen
        simp only [E.ok, Option.some.injEq] at he; subst he
        simp only [execOp, ho, hu, Instr.field, asAgg, part, Sem.run_bind, run_underlying h1, h2, run_isAgg h4, hag, run_sizeP h3, Sem.run_pure, Result.andThen_ok, if_true]
        refine .same hr (.agg ?_ fun i c u hc hi => ?_) True
        · have := hv.1; simp; omega
        · rw [Array.getElem?_extract] at hi
          rw [List.getElem?_take] at hc
          split at hi
          · split at hc
            · rw [List.getElem?_drop] at hc
              exact hv.2 _ _ _ hc hi
            · cases hc
          · cases hi
      · cases he
    · rename_i hag
      split at he
      · rename_i c hc
        simp only [E.ok, Option.some.injEq] at he; subst he
        have hlt : fd.offset < vs.size := by rw [← hv.1]; exact (List.getElem?_eq_some_iff.1 hc).1
        have hg : vs[fd.offset]? = some vs[fd.offset] := Array.getElem?_eq_getElem hlt
        have hag' : ag = false := by simpa using hag
        simp only [execOp, ho, hu, Instr.field, asAgg, part, Sem.run_bind, run_underlying h1, h2, run_isAgg h4, hag', hg, Sem.run_pure, Result.andThen_ok, Bool.false_eq_true, if_false]
        exact .same hr (hv.2 _ _ _ hc hg) True
      · cases he
  · cases he

theorem s_nilc (hr : HR C ρ U h w) (ht : Tm C ρ U w t a) {x : Operand} (ho : o.op = .nilCheck x) (he : eff nm t h (.nilc x) = some e) :
    Run C ρ U h w nm ((execOp a.eval o).run P w) e := by
  simp only [eff] at he
  split at he
  · rename_i b j hx
    have hvr := ev_ok ht hx
    obtain ⟨hu, ad, hax, had⟩ := hvr.ptr_inv
    split at he
    · rename_i cs hb
      simp only [E.ok, Option.some.injEq] at he; subst he
      obtain ⟨g, off, n, _, _, hl, _⟩ := box_at hr hb
      have := had g off n hl
      subst this
      rw [hax] at hvr
      simp only [execOp, ho, hax, Sem.run_pure]
      exact .same hr hvr True
    · cases he
  · rename_i cs j hx
    have hvr := ev_ok ht hx
    have hvp := hvr.pel_inv
    simp only [E.ok, Option.some.injEq] at he; subst he
    cases hq : a.eval x with
    | pointer ad =>
      rw [hq] at hvp hvr
      cases hvp with
      | pel g off f hok hc hv =>
        simp only [execOp, ho, hq, Sem.run_pure]
        exact .same hr hvr True
    | _ => rw [hq] at hvp; cases hvp
  · rename_i f cs hx
    have hvr := ev_ok ht hx
    obtain ⟨vs, hu, hv⟩ := hvr.fn_inv
    simp only [E.ok, Option.some.injEq] at he; subst he
    rw [hu] at hvr
    simp only [execOp, ho, hu, Sem.run_pure]
    exact .same hr hvr True
  · cases he

theorem s_iaddr (hr : HR C ρ U h w) (ht : Tm C ρ U w t a) {ty el : TypeId} {sz : Nat} {x i : Operand} (h1 : P.underlying ty = some (.slice el))
    (h3 : sizeP P el = some sz) (ho : o.op = .indexAddr ty x i) (he : eff nm t h (.iaddr sz x i) = some e) (hp : e.pre) :
    Run C ρ U h w nm ((execOp a.eval o).run P w) e := by
  have run : ∀ (g off len cap : Nat) (k : IntKind) (n : Int), a.eval x = .slice (some ⟨g, off, none⟩) len cap → a.eval i = .int k n → 0 ≤ n → n < len →
      (execOp a.eval o).run P w = .ok (.value (.pointer (some ⟨g, off + n.toNat * sz, none⟩))) w := by
    intro g off len cap k n hx hi h0 hlt
    simp only [execOp, ho, hx, hi, Instr.indexAt, asIntOf, Sem.run_bind, run_underlying h1, Sem.run_pure, Result.andThen_ok, run_sizeP h3, add_plain, h0, hlt, and_self, Sem.run_ite, if_true]
  simp only [eff] at he
  split at he
  · rename_i sz' xs k n hx hi
    have hvp := (ev_ok ht hx).sl_inv
    have hin := (ev_ok ht hi).v_inv
    split at he
    · rename_i hs
      subst hs
      simp only [Option.some.injEq] at he; subst he
      obtain ⟨h0, hlt⟩ := hp
      cases hq : a.eval x with
      | slice ad len cap =>
        rw [hq] at hvp
        cases hvp with
        | nilsl => simp at hlt; omega
        | sl ad len cap f hn hcap hok hl hc hv =>
          subst hn
          have hpos : 0 < xs.length := by omega
          obtain ⟨hsp, hok'⟩ := hok hpos
          obtain ⟨g, off, sp⟩ := ad
          simp only at hsp hc hok'
          subst hsp
          rw [run g off xs.length cap k n hq hin h0 hlt]
          have hlt' : n.toNat < xs.length := by omega
          have hxk : xs[n.toNat]? = some (nth xs n.toNat) := by
            rw [List.getElem?_eq_getElem hlt']; simp [nth, List.getElem?_eq_getElem hlt']
          have e0 : VP w (okc C ρ w) (.pel (nth xs n.toNat) 0) (.pointer (some ⟨g, off + n.toNat * sz + 0, none⟩)) :=
            .pel g (off + n.toNat * sz) (f n.toNat) hok' (fun j c hj => by
              have := (hc _ _ _ _ hxk hj).1
              rw [show off + n.toNat * sz + j = off + (n.toNat * sz + j) from by omega]
              exact this) (fun j c hj => hv _ _ _ _ hxk hj)
          exact .same hr (.p e0) _
      | _ => rw [hq] at hvp; cases hvp
    · cases he
  · rename_i b sz' off len k n hx hi
    have hin := (ev_ok ht hi).v_inv
    obtain ⟨hu, ⟨ad, len', cap', hsl⟩, hown⟩ := (ev_ok ht hx).own_inv
    split at he
    · rename_i ety sz'' xs hb
      split at he
      · rename_i hs
        obtain ⟨hs1, hs2⟩ := hs
        subst hs1; subst hs2
        simp only [Option.some.injEq] at he; subst he
        obtain ⟨h0, hlt⟩ := hp
        have hnil : ρ b ≠ .nil := by
          intro e; rw [e] at hown; simp only at hown; omega
        have hnd : ρ b ≠ .dead := by
          intro e
          rcases (hr.hp b _ hb).2 with ⟨e', _⟩ | ⟨_, _, _, _, e', _⟩ <;> rw [e] at e' <;> cases e'
        cases hl : ρ b with
        | dead => exact absurd hl hnd
        | nil => exact absurd hl hnil
        | «at» g o n' =>
          rw [hl] at hown
          simp only at hown
          rcases hown with ⟨hz, _⟩ | ⟨cap, hlc, hroom, hval⟩
          · omega
          · rw [run g (o + off * sz) len cap k n hval hin h0 hlt]
            refine .same hr (.rp _ hu fun g' off' n'' hl' => ?_) _
            rw [hl] at hl'; cases hl'
            congr 2
            rw [Nat.add_mul]; omega
      · cases he
    · cases he
  · cases he

theorem run_len {ty : TypeId} {x : Operand} {c : Call} {d : TypeDesc} {v : Value} {n : Nat} (h1 : P.underlying ty = some d) (hd : (∃ el, d = .slice el ∧ ∃ ad cap, v = .slice ad n cap) ∨ (d = .string ∧ ∃ s, v = .string s ∧ n = s.size))
    (hc : c.callee = .builtin .len) (h2 : c.argTypes[0]? = some ty) (h3 : c.args[0]? = some x) (ho : o.op = .call c) (hx : a.eval x = v) :
    (execOp a.eval o).run P w = .ok (.value (.int .i64 n)) w := by
  have h4 : (c.args.map a.eval)[0]? = some (a.eval x) := by simp [h3]
  have run1 : ∀ v, (Builtin.len_ c.argTypes o.type (c.args.map a.eval)).run P w = .ok v w → (execOp a.eval o).run P w = .ok (.value v) w := by
    intro v hv
    simp only [execOp, ho, resolve, hc, invoke, builtin, Sem.run_bind, Sem.run_pure, Result.andThen_ok, hv]
  rcases hd with ⟨el, rfl, ad, cap, rfl⟩ | ⟨rfl, s, rfl, rfl⟩
  · refine run1 _ ?_
    simp [Builtin.len_, h2, h3, hx, run_underlying h1, goInt]
  · refine run1 _ ?_
    simp [Builtin.len_, h2, h3, hx, run_underlying h1, goInt]

theorem s_slen (hr : HR C ρ U h w) (ht : Tm C ρ U w t a) {ty : TypeId} {x : Operand} {c : Call} (h1 : P.underlying ty = some .string)
    (hc : c.callee = .builtin .len) (h2 : c.argTypes[0]? = some ty) (h3 : c.args[0]? = some x) (ho : o.op = .call c) (he : eff nm t h (.slen x) = some e) :
    Run C ρ U h w nm ((execOp a.eval o).run P w) e := by
  simp only [eff] at he
  split at he
  · rename_i s hx
    have hv := (ev_ok ht hx).v_inv
    simp only [E.ok, Option.some.injEq] at he; subst he
    rw [run_len h1 (.inr ⟨rfl, s, rfl, rfl⟩) hc h2 h3 ho hv]
    exact .same hr (.p (.v _)) True
  · cases he

theorem s_len (hr : HR C ρ U h w) (ht : Tm C ρ U w t a) {ty el : TypeId} {x : Operand} {c : Call} (h1 : P.underlying ty = some (.slice el))
    (hc : c.callee = .builtin .len) (h2 : c.argTypes[0]? = some ty) (h3 : c.args[0]? = some x) (ho : o.op = .call c) (he : eff nm t h (.len x) = some e) :
    Run C ρ U h w nm ((execOp a.eval o).run P w) e := by
  simp only [eff] at he
  split at he
  · rename_i ad n cap hx
    have hv := (ev_ok ht hx).v_inv
    simp only [E.ok, Option.some.injEq] at he; subst he
    rw [run_len h1 (.inl ⟨el, rfl, ad, cap, rfl⟩) hc h2 h3 ho hv]
    exact .same hr (.p (.v _)) True
  · rename_i sz xs hx
    have hvp := (ev_ok ht hx).sl_inv
    simp only [E.ok, Option.some.injEq] at he; subst he
    have : ∃ ad cap, a.eval x = .slice ad xs.length cap := by
      generalize a.eval x = u at hvp
      cases hvp with
      | nilsl => exact ⟨none, 0, rfl⟩
      | sl ad n cap f hn => subst hn; exact ⟨_, _, rfl⟩
    obtain ⟨ad, cap, hv⟩ := this
    rw [run_len h1 (.inl ⟨el, rfl, ad, cap, rfl⟩) hc h2 h3 ho hv]
    exact .same hr (.p (.v _)) True
  · rename_i b sz off n hx
    obtain ⟨hu, ⟨ad, len', cap', hsl⟩, hown⟩ := (ev_ok ht hx).own_inv
    split at he
    · rename_i ety sz'' xs hb
      simp only [E.ok, Option.some.injEq] at he; subst he
      have : ∃ ad cap, a.eval x = .slice ad n cap := by
        cases hl : ρ b with
        | dead => rcases (hr.hp b _ hb).2 with ⟨e', _⟩ | ⟨_, _, _, _, e', _⟩ <;> rw [hl] at e' <;> cases e'
        | nil => rw [hl] at hown; simp only at hown; obtain ⟨rfl, hv⟩ := hown; exact ⟨_, _, hv⟩
        | «at» g o n' =>
          rw [hl] at hown
          simp only at hown
          rcases hown with ⟨rfl, hv | ⟨ad, hv⟩⟩ | ⟨cap, _, _, hv⟩
          · exact ⟨_, _, hv⟩
          · exact ⟨_, _, hv⟩
          · exact ⟨_, _, hv⟩
      obtain ⟨ad, cap, hv⟩ := this
      rw [run_len h1 (.inl ⟨el, rfl, ad, cap, rfl⟩) hc h2 h3 ho hv]
      exact .same hr (.p (.v _)) True
    · cases he
  · cases he

/-! ### New boxes, and stores -/

theorem cells_obR {w' : World} {ok : Nat → Prop} {ρ' : Nat → Loc} {U' : Nat → Prop} {cs : List AV} {cells : Array Value} {ety g : Nat} (hv : VL w' ok ρ' U' cs cells)
    (hg : w'.heap[g]? = some (.cells cells ety (0, 0))) : ObR w' ok ρ' U' (.at g 0 cs.length) (.box cs) :=
  ⟨g, 0, cs.length, ety, cells, rfl, hg, by have := hv.1; omega, rfl, fun j c hj => by
    have hlt : j < cells.size := by rw [← hv.1]; exact (List.getElem?_eq_some_iff.1 hj).1
    refine ⟨cells[j], ?_, hv.2 j c _ hj (Array.getElem?_eq_getElem hlt)⟩
    rw [Nat.zero_add]; exact Array.getElem?_eq_getElem hlt⟩

/-- A block more. -/
theorem moved_alloc (hr : HR C ρ U h w) (hn : ¬ U nm) (ob : Obj) {l : Loc} (hl : l = .nil ∨ ∃ o n, l = .at w.heap.size o n) : Moved C ρ U h w nm l (w.alloc ob) where
  os := rfl
  tape := rfl
  output := rfl
  size := by simp
  bl g hg _ := Go.RowKit.Below.heap_alloc w ob g hg
  way := .inr (.inr ⟨hn, hl.imp id fun ⟨o, n, e⟩ => ⟨w.heap.size, o, n, e, Nat.le_refl _, by simp⟩⟩)

theorem new_box (hr : HR C ρ U h w) (hn : ¬ U nm) {cs : List AV} {cells : Array Value} {ety : Nat} (hv : VL w (okc C ρ w) ρ U cs cells) {r : Result Next}
    (hrun : r = .ok (.value (.pointer (some ⟨w.heap.size, 0, none⟩))) (w.alloc (.cells cells ety))) (p : Prop) : Run C ρ U h w nm r ⟨p, .ptr nm 0, [(nm, .box cs)]⟩ := by
  have hm := moved_alloc (C := C) (ρ := ρ) (U := U) (h := h) hr hn (.cells cells ety) (l := .at w.heap.size 0 cs.length) (.inr ⟨0, cs.length, rfl⟩)
  refine .moved hr hm (fun _ => ⟨cs, rfl⟩) (cells_obR (ety := ety) ⟨hv.1, fun i c u h1 h2 => hm.vr (hv.2 i c u h1 h2)⟩ (heap_alloc_new w _)) (.inl hrun) ?_ (.inr rfl) p
  refine .ptr _ (.inr rfl) fun g o n hl => ?_
  simp only [up, if_true] at hl
  cases hl
  rfl

theorem s_alloc (hr : HR C ρ U h w) (hn : ¬ U nm) {el : TypeId} {zs : List Value} (hz : zerosOf P el = some zs) (ho : o.op = .alloc el) (he : eff nm t h (.alloc zs) = some e) :
    Run C ρ U h w nm ((execOp a.eval o).run P w) e := by
  simp only [eff, Option.some.injEq] at he; subst he
  unfold zerosOf at hz
  split at hz
  · rename_i i hi
    split at hz
    · rename_i z hiz
      simp only [Option.some.injEq] at hz; subst hz
      refine new_box hr hn (cells := z.cells) (ety := el) ⟨by simp, fun i c u h1 h2 => ?_⟩ ?_ True
      · simp only [List.getElem?_map] at h1
        rw [← Array.getElem?_toList] at h2
        rw [h2] at h1
        simp at h1; subst h1
        exact .p (.v _)
      · simp [execOp, ho, Instr.alloc, zeroValue, typeInfo, hi, hiz, newVar, newRow]
    · cases hz
  · cases hz

theorem s_box (hr : HR C ρ U h w) (ht : Tm C ρ U w t a) (hn : ¬ U nm) {el : TypeId} {x : Operand} (ho : o.op = .box el x) (he : eff nm t h (.box x) = some e) :
    Run C ρ U h w nm ((execOp a.eval o).run P w) e := by
  simp only [eff] at he
  split at he
  · rename_i y hx
    split at he
    · rename_i ys hy
      simp only [Option.some.injEq] at he; subst he
      obtain ⟨hv, _, _⟩ := cellsA_ok (ev_ok ht hx) hy
      refine new_box hr hn (ety := el) hv ?_ True
      simp [execOp, ho, Instr.box, newVar, newRow]
    · cases he
  · cases he

end
end Go.Eng
