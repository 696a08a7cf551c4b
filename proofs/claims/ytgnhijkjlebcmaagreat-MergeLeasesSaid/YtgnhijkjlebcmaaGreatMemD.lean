/-
  The memory machine: an executor for the translated code, and that it does what the code does.
  No condition: definitions and lemmas.
-/
import Derived.Test.YtgnhijkjlebcmaaGreatMemC
import Derived.Test.YtgnhijkjlebcmaaGreatEngB
set_option linter.all false
namespace Go.M
open Go
open Go.Eng (SOp SOper SCode)
noncomputable section
variable [Ctxt]
def CoreW (P : Program) (fl : Nat) (o : Oper) (ops : List (Operand × X)) (h : Hp) (c : Hp → Kx → R) : Prop :=
  ∀ k r, c h k = some r → ∃ x h', k x h' = some r ∧ HLe fl h h' ∧ ((∀ p ∈ h'.fa, p) → ∀ w0 V w (a : Act), MR w0 V h w → (∀ q ∈ ops, den V q.2 (a.eval q.1)) →
    OpW P o a w fun v w' => ∃ V', MR w0 V' h' w' ∧ den V' x v ∧ Stp fl V h w V' w')
theorem CoreW.of {P : Program} {fl : Nat} {o : Oper} {xs : List (Operand × X)} {h : Hp} {c : Hp → Kx → R} (hc : CoreOk P fl o xs h c) : CoreW P fl o xs h c := fun k r e => by
  obtain ⟨x, h', h1, h2, h3⟩ := hc k r e
  exact ⟨x, h', h1, h2, fun hf w0 V w a hm hd => OpW.of_res (M := RM) (h3 hf w0 V w a.eval hm hd fun v => rfl)⟩
theorem MR.unfl {w0 : World} {V : Vw} {h : Hp} {w : World} (fl : Nat) (hm : MR w0 V h w) : MR w0 V (unfl fl h) w := ⟨hm.nb, hm.bl, hm.inj, hm.nw, hm.old, hm.sz, hm.os, hm.tape, hm.output, hm.ar⟩
theorem HLe.unfl {fl f : Nat} {h h' : Hp} (a : HLe fl (unfl f h) h') : HLe fl h (unfl h.fl h') := ⟨a.n, rfl, a.get, a.fa⟩
section
variable {P : Program} {cx : Cx} {ops : Array Oper} {o : Oper} {ol : OL} {en : En} {fr : FX} {l : Loc} {h : Hp} {k : Kc} {r : List Prop} {ih : En → FR}
theorem t9 (f : Nat) : (32 * f + 9) % 32 = 9 ∧ (32 * f + 9) / 32 = f := by omega
theorem acOf_den (hw : Wf cx en l) {V : Vw} {γ : Nat → Nat} {a : Act} {LT : List Nat} (ht : TOk (sta cx en fr l) V γ a LT) {x : Operand} {ac : Ac} (hx : ∀ j ∈ tmpOf x, j ∈ LT) (e : acOf cx en x = some ac) : den V (ac.g fr l) (a.eval x) := by
  cases x with
  | tmp g => exact vT_den hw ht (hx g (by simp [tmpOf])) (acOf_tmp e)
  | const v =>
    have e' : oD (cnd (oneB v) (some (D.con (encV v))) none) none (fun d => some (acD en.n d)) = some ac := e
    cases h1 : oneB v with
    | false => rw [h1] at e'; cases e'
    | true =>
      rw [h1] at e'
      cases e'
      rw [acD_con]
      exact encV_den h1
  | func f =>
    have e' : oD (cnd (Nat.blt f 1000000) (some (D.con ⟨32 * f + 9, [], oZ⟩)) none) none (fun d => some (acD en.n d)) = some ac := e
    cases h1 : Nat.blt f 1000000 with
    | false => rw [h1] at e'; cases e'
    | true =>
      rw [h1] at e'
      cases e'
      rw [acD_con]
      have hlt : f < 1000000 := by simpa [Nat.blt_eq] using h1
      refine (den9 (x := ⟨32 * f + 9, [], oZ⟩) (t9 f).1).2 ⟨[], ?_, denL_nil.2 rfl⟩
      show Value.func (.func f) #[] #[] = funV ((32 * f + 9) / 32) _
      rw [(t9 f).2, funV, if_pos hlt]
  | global g => cases e
theorem gen_pure (hL : Lnk P cx ops o ol) (hw : Wf cx en l) (hd : ∀ t, ol.dst = some t → mem cx.PV t = false) {f : FO} {xs : List (Operand × X)} (e : (gen cx ol en ih f).f fr l h k = some r)
    (hx : ∀ V γ a, TOk (sta cx en fr l) V γ a (looksL ol) → ∀ q ∈ xs, den V q.2 (a.eval q.1)) (hcore : ∀ h1, CoreP P o xs h1 (f.f fr l)) : Out P cx ops o ol en fr l h ih k r := by
  obtain ⟨x, h', h1, h2⟩ := gen_run (Pr := fun x h2 => (∀ fl, HLe fl (if ol.flo then unfl h.n h else h) h2) ∧ ((∀ p ∈ h2.fa, p) → ∀ (M : Rel) fl w0 V w (ev : Operand → Value), M.R w0 V (if ol.flo then unfl h.n h else h) w → (∀ q ∈ xs, den V q.2 (ev q.1)) → (∀ v, ev (.const v) = v) →
    Res M P w0 fl V (if ol.flo then unfl h.n h else h) w x h2 ((execOp ev o).run P w))) e fun kk ek => by
      obtain ⟨x, h2, h3, h4, h5⟩ := hcore _ kk r ek
      exact ⟨x, h2, h3, h4, h5⟩
  obtain ⟨b1, b2⟩ := bnd_ok (fr := fr) hw hd x
  refine ⟨_, _, h', .pure [], .val x, none, h1, b1, b2, ?_, .inl rfl, (fun p off c e => by cases e), fun hfa => ⟨rfl, fun bb V γ w a ht hc => ?_⟩⟩
  · rcases h2 with ⟨h2, ⟨h3, _⟩, h4, _⟩ | ⟨_, rfl, _⟩
    · subst h4
      split
      · rename_i hf; simp only [hf, if_true] at h3; exact (h3 _).unfl
      · rename_i hf; simp only [hf, if_false] at h3; exact h3 _
    · exact .refl _ _
  · rcases h2 with ⟨h2, ⟨_, h3⟩, h4, h5⟩ | ⟨rfl, _, h5⟩
    · have hfa' : ∀ p ∈ h2.fa, p := fun p hp => hfa p (by subst h4; split <;> exact hp)
      exact (gw_run hL hw ht h5 (OpW.of_res (h3 hfa' (RC V w) 0 w V w a.eval ⟨rfl, rfl⟩ (hx V γ a ht) fun v => rfl))).mono fun v w' ⟨V', ⟨h6, h7⟩, h8, _⟩ => ⟨h7, by subst h6; exact h8⟩
    · exact gw_skip hL hw ht h5 ⟨rfl, (den_xU : den V xU undef)⟩
theorem gen_heap (wr : Bool) (hL : Lnk P cx ops o ol) (hw : Wf cx en l) (hd : ∀ t, ol.dst = some t → mem cx.PV t = false) (hfn : h.fl ≤ h.n) (hc0 : cls0 ol.op ≠ 0) (hw3 : wr = true → 3 ≤ cls0 ol.op)
    (hvp : (∃ ag sz x, ol.op = .load ag sz x) ∨ (∃ sz x y, ol.op = .store sz x y) → ∀ v, ol.vp = some v → v = none) {f : FO} {xs : List (Operand × X)} (e : (gen cx ol en ih f).f fr l h k = some r)
    (hx : ∀ V γ a, TOk (sta cx en fr l) V γ a (looksL ol) → ∀ q ∈ xs, den V q.2 (a.eval q.1)) (hcore : ∀ h1 fl, h1.fl ≤ h1.n → (wr = true → fl = h1.fl) → CoreW P fl o xs h1 (f.f fr l)) : Out P cx ops o ol en fr l h ih k r := by
  let F : Nat := if ol.flo then h.n else if wr then h.fl else h.n
  let h1 : Hp := if ol.flo then unfl h.n h else h
  have hF : wr = true → F = h1.fl := fun hwr => by
    show (if ol.flo then h.n else if wr then h.fl else h.n) = (if ol.flo then unfl h.n h else h).fl
    by_cases hf : ol.flo = true
    · rw [if_pos hf, if_pos hf]
    · rw [if_neg hf, if_neg hf, if_pos hwr]
  obtain ⟨x, h', g1, g2⟩ := gen_run (Pr := fun x h2 => HLe F h1 h2 ∧ ((∀ p ∈ h2.fa, p) → ∀ w0 V w (a : Act), MR w0 V h1 w → (∀ q ∈ xs, den V q.2 (a.eval q.1)) →
    OpW P o a w fun v w' => ∃ V', MR w0 V' h2 w' ∧ den V' x v ∧ Stp F V h1 w V' w')) e fun kk ek => by
      obtain ⟨x, h2, h3, h4, h5⟩ := hcore h1 F (by show (if ol.flo then unfl h.n h else h).fl ≤ (if ol.flo then unfl h.n h else h).n; split; exact Nat.le_refl _; exact hfn) hF kk r ek
      exact ⟨x, h2, h3, h4, h5⟩
  obtain ⟨b1, b2⟩ := bnd_ok (fr := fr) hw hd x
  have hmr : ∀ {w0 V w}, MR w0 V h w → MR w0 V h1 w := fun hm => by
    show MR _ _ (if ol.flo then unfl h.n h else h) _
    split
    · exact hm.unfl _
    · exact hm
  have hst : ∀ {V w V' w'}, Stp F V h1 w V' w' → Stp F V h w V' w' := fun hs => by
    have hn : h1.n = h.n := by show (if ol.flo then unfl h.n h else h).n = h.n; split <;> rfl
    exact ⟨hs.ext, fun b hb => (hs.new b hb).imp id fun hh => ⟨hn ▸ hh.1, hh.2⟩, hs.keep, hs.size⟩
  refine ⟨_, _, h', .heap F, .val x, none, g1, b1, b2, ?_, ⟨hc0, hvp, ?_, fun _ => hd⟩, (fun p off c e => by cases e), fun hfa => ⟨rfl, x, rfl, fun w0 V γ w a hm ht => ?_⟩⟩
  · rcases g2 with ⟨h2, ⟨h3, _⟩, h4, _⟩ | ⟨_, rfl, _⟩
    · subst h4
      show HLe F h (if ol.flo then unfl h.fl h2 else h2)
      split
      · rename_i hf
        have h3' : HLe F (if ol.flo then unfl h.n h else h) h2 := h3
        rw [if_pos hf] at h3'; exact h3'.unfl
      · rename_i hf
        have h3' : HLe F (if ol.flo then unfl h.n h else h) h2 := h3
        rw [if_neg hf] at h3'; exact h3'
    · exact .refl _ _
  · show (if ol.flo then h.n else if wr then h.fl else h.n) = h.n ∨ _
    by_cases hf : ol.flo = true
    · exact .inl (if_pos hf)
    · by_cases hr : wr = true
      · refine .inr ⟨?_, hw3 hr, by simpa using hf⟩
        show (if ol.flo then h.n else if wr then h.fl else h.n) = h.fl
        rw [if_neg hf, if_pos hr]
      · exact .inl (by rw [if_neg hf, if_neg hr])
  · rcases g2 with ⟨h2, ⟨_, h3⟩, h4, h5⟩ | ⟨rfl, h4, h5⟩
    · have hfa' : ∀ p ∈ h2.fa, p := fun p hp => hfa p (by subst h4; split <;> exact hp)
      refine (gw_run hL hw ht h5 (h3 hfa' w0 V w a (hmr hm) (hx V γ a ht))).mono fun v w' ⟨V', h6, h7, h8⟩ => ⟨V', ?_, h7, hst h8⟩
      subst h4
      split
      · exact h6.unfl _
      · exact h6
    · subst h4
      exact gw_skip hL hw ht h5 ⟨V, hm, den_xU, .refl ..⟩
def EffMk (P : Program) (ops : Array Oper) (o : Oper) (LT : List Nat) (s : Sta) (h h' : Hp) (sv : SV) : Prop := ∃ x, sv = .val x ∧ ∀ V γ w a, TOk s V γ a LT → ¬ V.S h.n → GW P ops o a w fun v w' =>
  (w' = w ∧ den V x v) ∨ ∃ ob g e, w' = w.alloc ob ∧ h.n < 65536 ∧ h'.n = h.n + 1 ∧ BlkR (addV V h.n w.heap.size g e) w' h.n (gH h' h.n) ∧ den (addV V h.n w.heap.size g e) x v
def OutM (P : Program) (cx : Cx) (ops : Array Oper) (o : Oper) (ol : OL) (en : En) (fr : FX) (l : Loc) (h : Hp) (ih : En → FR) (k : Kc) (r : List Prop) : Prop :=
  ∃ en' l' h' kd sv var, (ih en').f fr l' h' k = some r ∧ Wf cx en' l' ∧ (sta cx en' fr l').le ((sta cx en fr l).upd ol.dst sv var) ∧ HLe (kdF h kd) h h' ∧ KdOk cx h ol kd ∧ SvOk ol kd sv ∧
    ((∀ p ∈ h'.fa, p) → EffOk P ops o (looksL ol) (sta cx en fr l) h h' kd sv var) ∧ (isMk ol.op = true → EffMk P ops o (looksL ol) (sta cx en fr l) h h' sv)
theorem OutM.out (hM : OutM P cx ops o ol en fr l h ih k r) : Out P cx ops o ol en fr l h ih k r := by
  obtain ⟨en', l', h', kd, sv, var, h1, h2, h3, h4, h5, h6, h7, _⟩ := hM
  exact ⟨en', l', h', kd, sv, var, h1, h2, h3, h4, h5, h6, h7⟩
theorem gen_mk (hL : Lnk P cx ops o ol) (hw : Wf cx en l) (hd : ∀ t, ol.dst = some t → mem cx.PV t = false) (hfn : h.fl ≤ h.n) (hc0 : cls0 ol.op ≠ 0)
    (hvp : (∃ ag sz x, ol.op = .load ag sz x) ∨ (∃ sz x y, ol.op = .store sz x y) → ∀ v, ol.vp = some v → v = none) {f : FO} {xs : List (Operand × X)} (e : (gen cx ol en ih f).f fr l h k = some r)
    (hx : ∀ V γ a, TOk (sta cx en fr l) V γ a (looksL ol) → ∀ q ∈ xs, den V q.2 (a.eval q.1)) (hcore : ∀ h1, CoreMk P o xs h1 (f.f fr l)) : OutM P cx ops o ol en fr l h ih k r := by
  let h1 : Hp := if ol.flo then unfl h.n h else h
  have h1n : h1.n = h.n := by show (if ol.flo then unfl h.n h else h).n = h.n; split <;> rfl
  obtain ⟨x, h', g1, g2⟩ := gen_run (Pr := fun x h2 => (∀ fl, HLe fl h1 h2) ∧ (∀ fl w0 V w (ev : Operand → Value), MR w0 V h1 w → (∀ q ∈ xs, den V q.2 (ev q.1)) → Res RM P w0 fl V h1 w x h2 ((execOp ev o).run P w)) ∧ h1.n < 65536 ∧ h2.n = h1.n + 1 ∧
    (∀ w V (ev : Operand → Value), (∀ q ∈ xs, den V q.2 (ev q.1)) → ¬ V.S h1.n → ∃ v ob g e, (execOp ev o).run P w = .ok (.value v) (w.alloc ob) ∧ BlkR (addV V h1.n w.heap.size g e) (w.alloc ob) h1.n (gH h2 h1.n) ∧ den (addV V h1.n w.heap.size g e) x v)) e fun kk ek => by
      obtain ⟨x, h2, h3, h4⟩ := hcore h1 kk r ek
      exact ⟨x, h2, h3, h4⟩
  obtain ⟨b1, b2⟩ := bnd_ok (fr := fr) hw hd x
  have hmr : ∀ {w0 V w}, MR w0 V h w → MR w0 V h1 w := fun hm => by
    show MR _ _ (if ol.flo then unfl h.n h else h) _
    split
    · exact hm.unfl _
    · exact hm
  have hst : ∀ {F V w V' w'}, Stp F V h1 w V' w' → Stp F V h w V' w' := fun hs => ⟨hs.ext, fun b hb => (hs.new b hb).imp id fun hh => ⟨h1n ▸ hh.1, hh.2⟩, hs.keep, hs.size⟩
  refine ⟨_, _, h', .heap h.n, .val x, none, g1, b1, b2, ?_, ⟨hc0, hvp, .inl rfl, fun _ => hd⟩, (fun p off c e => by cases e), fun hfa => ⟨rfl, x, rfl, fun w0 V γ w a hm ht => ?_⟩, fun _ => ⟨x, rfl, fun V γ w a ht hn => ?_⟩⟩
  · rcases g2 with ⟨h2, ⟨h3, _⟩, h4, _⟩ | ⟨_, rfl, _⟩
    · subst h4
      show HLe h.n h (if ol.flo then unfl h.fl h2 else h2)
      have h3' : HLe h.n (if ol.flo then unfl h.n h else h) h2 := h3 _
      split
      · rename_i hf
        rw [if_pos hf] at h3'; exact h3'.unfl
      · rename_i hf
        rw [if_neg hf] at h3'; exact h3'
    · exact .refl _ _
  · rcases g2 with ⟨h2, ⟨_, h3, _⟩, h4, h5⟩ | ⟨rfl, h4, h5⟩
    · refine (gw_run hL hw ht h5 (OpW.of_res (h3 h.n w0 V w a.eval (hmr hm) (hx V γ a ht)))).mono fun v w' ⟨V', h6, h7, h8⟩ => ⟨V', ?_, h7, hst h8⟩
      subst h4
      have h6 : MR w0 V' h2 w' := h6
      split
      · exact h6.unfl _
      · exact h6
    · subst h4
      exact gw_skip hL hw ht h5 ⟨V, hm, den_xU, .refl ..⟩
  · rcases g2 with ⟨h2, ⟨_, _, h3, h4, h5⟩, h6, h7⟩ | ⟨rfl, h4, h5⟩
    · refine gw_run hL hw ht h7 fun next K hnx => ?_
      obtain ⟨v, ob, g, e', q1, q2, q3⟩ := h5 w V a.eval (hx V γ a ht) (by rw [h1n]; exact hn)
      unfold Oper.wp
      rw [q1, Oper.upon_value]
      refine hnx _ _ (.inr ⟨ob, g, e', rfl, by rw [← h1n]; exact h3, ?_, ?_, ?_⟩)
      · subst h6
        rw [← h1n, ← h4]
        split <;> rfl
      · rw [h1n] at q2
        have : gH h' h.n = gH h2 h.n := by
          subst h6
          split <;> rfl
        rw [this]; exact q2
      · rw [h1n] at q3; exact q3
    · exact gw_skip hL hw ht h5 (.inl ⟨rfl, den_xU⟩)
theorem oR_some {α : Type} {a : Option α} {kk : α → FR} (e : (oR a kk).f fr l h k = some r) : ∃ x, a = some x ∧ (kk x).f fr l h k = some r := by
  cases a with
  | none => cases e
  | some x => exact ⟨x, rfl, e⟩
theorem p1_pure (hL : Lnk P cx ops o ol) (hw : Wf cx en l) (hd : ∀ t, ol.dst = some t → mem cx.PV t = false) {f : X → Hp → Kx → R} {x : Operand} (e : (p1 f x cx ol en ih).f fr l h k = some r)
    (hx : ∀ j ∈ tmpOf x, j ∈ looksL ol) (hcore : ∀ y h1, CoreP P o [(x, y)] h1 (f y)) : Out P cx ops o ol en fr l h ih k r := by
  obtain ⟨a, ha, e1⟩ := oR_some e
  refine gen_pure hL hw hd (xs := [(x, a.g fr l)]) e1 (fun V γ ac ht q hq => ?_) fun h1 => hcore _ h1
  simp only [List.mem_singleton] at hq; subst hq
  exact acOf_den hw ht hx ha
theorem p2_pure (hL : Lnk P cx ops o ol) (hw : Wf cx en l) (hd : ∀ t, ol.dst = some t → mem cx.PV t = false) {f : X → X → Hp → Kx → R} {x y : Operand} (e : (p2 f x y cx ol en ih).f fr l h k = some r)
    (hx : ∀ j ∈ tmpOf x, j ∈ looksL ol) (hy : ∀ j ∈ tmpOf y, j ∈ looksL ol) (hcore : ∀ u v h1, CoreP P o [(x, u), (y, v)] h1 (f u v)) : Out P cx ops o ol en fr l h ih k r := by
  obtain ⟨a, ha, e1⟩ := oR_some e
  obtain ⟨b, hb, e2⟩ := oR_some e1
  refine gen_pure hL hw hd (xs := [(x, a.g fr l), (y, b.g fr l)]) e2 (fun V γ ac ht q hq => ?_) fun h1 => hcore _ _ h1
  simp only [List.mem_cons, List.not_mem_nil, or_false] at hq
  rcases hq with rfl | rfl
  · exact acOf_den hw ht hx ha
  · exact acOf_den hw ht hy hb
theorem p3_pure (hL : Lnk P cx ops o ol) (hw : Wf cx en l) (hd : ∀ t, ol.dst = some t → mem cx.PV t = false) {f : X → X → X → Hp → Kx → R} {x y z : Operand} (e : (p3 f x y z cx ol en ih).f fr l h k = some r)
    (hx : ∀ j ∈ tmpOf x, j ∈ looksL ol) (hy : ∀ j ∈ tmpOf y, j ∈ looksL ol) (hz : ∀ j ∈ tmpOf z, j ∈ looksL ol) (hcore : ∀ u v s h1, CoreP P o [(x, u), (y, v), (z, s)] h1 (f u v s)) : Out P cx ops o ol en fr l h ih k r := by
  obtain ⟨a, ha, e1⟩ := oR_some e
  obtain ⟨b, hb, e2⟩ := oR_some e1
  obtain ⟨c, hc, e3⟩ := oR_some e2
  refine gen_pure hL hw hd (xs := [(x, a.g fr l), (y, b.g fr l), (z, c.g fr l)]) e3 (fun V γ ac ht q hq => ?_) fun h1 => hcore _ _ _ h1
  simp only [List.mem_cons, List.not_mem_nil, or_false] at hq
  rcases hq with rfl | rfl | rfl
  · exact acOf_den hw ht hx ha
  · exact acOf_den hw ht hy hb
  · exact acOf_den hw ht hz hc
theorem p1_heap (wr : Bool) (hL : Lnk P cx ops o ol) (hw : Wf cx en l) (hd : ∀ t, ol.dst = some t → mem cx.PV t = false) (hfn : h.fl ≤ h.n) (hc0 : cls0 ol.op ≠ 0) (hw3 : wr = true → 3 ≤ cls0 ol.op)
    (hvp : (∃ ag sz x, ol.op = .load ag sz x) ∨ (∃ sz x y, ol.op = .store sz x y) → ∀ v, ol.vp = some v → v = none) {f : X → Hp → Kx → R} {x : Operand} (e : (p1 f x cx ol en ih).f fr l h k = some r)
    (hx : ∀ j ∈ tmpOf x, j ∈ looksL ol) (hcore : ∀ y h1 fl, (wr = true → fl = h1.fl) → CoreOk P fl o [(x, y)] h1 (f y)) : Out P cx ops o ol en fr l h ih k r := by
  obtain ⟨a, ha, e1⟩ := oR_some e
  refine gen_heap wr hL hw hd hfn hc0 hw3 hvp (xs := [(x, a.g fr l)]) e1 (fun V γ ac ht q hq => ?_) fun h1 fl _ hf => .of (hcore _ h1 fl hf)
  simp only [List.mem_singleton] at hq; subst hq
  exact acOf_den hw ht hx ha
theorem p2_heap (wr : Bool) (hL : Lnk P cx ops o ol) (hw : Wf cx en l) (hd : ∀ t, ol.dst = some t → mem cx.PV t = false) (hfn : h.fl ≤ h.n) (hc0 : cls0 ol.op ≠ 0) (hw3 : wr = true → 3 ≤ cls0 ol.op)
    (hvp : (∃ ag sz x, ol.op = .load ag sz x) ∨ (∃ sz x y, ol.op = .store sz x y) → ∀ v, ol.vp = some v → v = none) {f : X → X → Hp → Kx → R} {x y : Operand} (e : (p2 f x y cx ol en ih).f fr l h k = some r)
    (hx : ∀ j ∈ tmpOf x, j ∈ looksL ol) (hy : ∀ j ∈ tmpOf y, j ∈ looksL ol) (hcore : ∀ u v h1 fl, (wr = true → fl = h1.fl) → CoreOk P fl o [(x, u), (y, v)] h1 (f u v)) : Out P cx ops o ol en fr l h ih k r := by
  obtain ⟨a, ha, e1⟩ := oR_some e
  obtain ⟨b, hb, e2⟩ := oR_some e1
  refine gen_heap wr hL hw hd hfn hc0 hw3 hvp (xs := [(x, a.g fr l), (y, b.g fr l)]) e2 (fun V γ ac ht q hq => ?_) fun h1 fl _ hf => .of (hcore _ _ h1 fl hf)
  simp only [List.mem_cons, List.not_mem_nil, or_false] at hq
  rcases hq with rfl | rfl
  · exact acOf_den hw ht hx ha
  · exact acOf_den hw ht hy hb
theorem p3_heap (wr : Bool) (hL : Lnk P cx ops o ol) (hw : Wf cx en l) (hd : ∀ t, ol.dst = some t → mem cx.PV t = false) (hfn : h.fl ≤ h.n) (hc0 : cls0 ol.op ≠ 0) (hw3 : wr = true → 3 ≤ cls0 ol.op)
    (hvp : (∃ ag sz x, ol.op = .load ag sz x) ∨ (∃ sz x y, ol.op = .store sz x y) → ∀ v, ol.vp = some v → v = none) {f : X → X → X → Hp → Kx → R} {x y z : Operand} (e : (p3 f x y z cx ol en ih).f fr l h k = some r)
    (hx : ∀ j ∈ tmpOf x, j ∈ looksL ol) (hy : ∀ j ∈ tmpOf y, j ∈ looksL ol) (hz : ∀ j ∈ tmpOf z, j ∈ looksL ol) (hcore : ∀ u v s h1 fl, (wr = true → fl = h1.fl) → CoreOk P fl o [(x, u), (y, v), (z, s)] h1 (f u v s)) : Out P cx ops o ol en fr l h ih k r := by
  obtain ⟨a, ha, e1⟩ := oR_some e
  obtain ⟨b, hb, e2⟩ := oR_some e1
  obtain ⟨c, hc, e3⟩ := oR_some e2
  refine gen_heap wr hL hw hd hfn hc0 hw3 hvp (xs := [(x, a.g fr l), (y, b.g fr l), (z, c.g fr l)]) e3 (fun V γ ac ht q hq => ?_) fun h1 fl _ hf => .of (hcore _ _ _ h1 fl hf)
  simp only [List.mem_cons, List.not_mem_nil, or_false] at hq
  rcases hq with rfl | rfl | rfl
  · exact acOf_den hw ht hx ha
  · exact acOf_den hw ht hy hb
  · exact acOf_den hw ht hz hc
end
end
end Go.M
set_option maxHeartbeats 1000000
namespace Go.M
open Go
open Go.Eng (SOp SOper SCode)
noncomputable section
variable [Ctxt]
section
variable {P : Program} {cx : Cx} {ops : Array Oper} {o : Oper} {ol : OL} {en : En} {fr : FX} {l : Loc} {h : Hp} {k : Kc} {r : List Prop} {ih : En → FR}
theorem cnd_f0 {b : Bool} {x : FR} (e : (cnd b x frN).f fr l h k = some r) : b = true ∧ x.f fr l h k = some r := by
  cases b
  · cases e
  · exact ⟨rfl, e⟩
theorem vpOk_some0 {v : Option (Option Nat)} {a : AL} (h : vpOk v (some a) = true) : ∀ q, v = some q → q = some a.p := fun q hq => by
  subst hq
  cases q with
  | none => cases h
  | some p => rw [beqT h]
theorem gchk_run {g : Option (Nat × Bool)} {kk : FR} (e : (gchk cx en g kk).f fr l h k = some r) : kk.f fr l h k = some r ∧ (gdX cx en fr l g = true ∨ Off cx en fr l g) := by
  cases g with
  | none => exact ⟨e, .inl rfl⟩
  | some q =>
    obtain ⟨g, b⟩ := q
    obtain ⟨ac, ha, e1⟩ := oR_some (a := acOf cx en (.tmp g)) e
    have hv := acOf_tmp (fr := fr) (l := l) ha
    have e2 : cndR (Nat.beq (ac.g fr l).n 33) (kk.f fr l h k) (cndR (Nat.beq (ac.g fr l).n 1) (kk.f fr l h k) (cndR (Nat.beq (ac.g fr l).n 14) (kk.f fr l h k) none)) = some r := e1
    have fin : ∀ m, (ac.g fr l).n = m → (m = 33 ∨ m = 1 ∨ m = 14) → gdX cx en fr l (some (g, b)) = true ∨ Off cx en fr l (some (g, b)) := fun m hm hc => by
      by_cases hb : m = if b then 33 else 1
      · refine .inl ?_
        show (match vT cx en fr l g with
          | some x => decide (x.n = if b then 33 else 1)
          | none => false) = true
        rw [hv]; simpa using hm.trans hb
      · refine .inr ⟨g, b, _, rfl, hv, ?_⟩
        cases b <;> simp at hb ⊢ <;> omega
    rcases cndR_some e2 with ⟨h1, h2⟩ | ⟨_, h2⟩
    · exact ⟨h2, fin _ (beqT h1) (.inl rfl)⟩
    · rcases cndR_some h2 with ⟨h1, h2⟩ | ⟨_, h2⟩
      · exact ⟨h2, fin _ (beqT h1) (.inr (.inl rfl))⟩
      · obtain ⟨h1, h2⟩ := cndR_t h2
        exact ⟨h2, fin _ (beqT h1) (.inr (.inr rfl))⟩
theorem Off.not {g : Option (Nat × Bool)} (h : Off cx en fr l g) : gdX cx en fr l g = false := by
  obtain ⟨t, b, y, rfl, hy, hn⟩ := h
  show (match vT cx en fr l t with
    | some x => decide (x.n = if b then 33 else 1)
    | none => false) = false
  rw [hy]
  cases b <;> simp at hn ⊢ <;> omega
theorem Off.congr {en2 : En} {g : Option (Nat × Bool)} (hv : ∀ k, vT cx en2 fr l k = vT cx en fr l k) (h : Off cx en2 fr l g) : Off cx en fr l g := by
  obtain ⟨t, b, y, rfl, hy, hn⟩ := h
  exact ⟨t, b, y, rfl, (hv t) ▸ hy, hn⟩
theorem vT_congr {en2 : En} (hd : ∀ k, dT cx en2 k = dT cx en k) (hn : en2.n = en.n) (k : Nat) : vT cx en2 fr l k = vT cx en fr l k := by
  unfold vT vD; rw [hd, hn]
theorem sameG_gd {g g' : Option (Nat × Bool)} (h : sameG g g' = true) (hg : gdX cx en fr l g' = true) : gdX cx en fr l g = true := by
  cases g with
  | none => rfl
  | some q =>
    obtain ⟨a, b⟩ := q
    cases g' with
    | none => cases h
    | some q' =>
      obtain ⟨a', b'⟩ := q'
      have h' : (Nat.beq a a' && (b == b')) = true := h
      simp only [Bool.and_eq_true, beq_iff_eq] at h'
      rw [beqT h'.1, h'.2]; exact hg
theorem alias_out (hL : Lnk P cx ops o ol) (hw0 : Wf cx en l) {en2 : En} (hw : Wf cx en2 l) (hs : sta cx en2 fr l = sta cx en fr l) (hdT : ∀ k, dT cx en2 k = dT cx en k) (hn : en2.n = en.n) (hgx : ∀ g, gdX cx en2 fr l g = gdX cx en fr l g) {t p off : Nat} (ht : ol.dst = some t) (hpt : mem cx.PV t = false) (hp : mem cx.PV p = true) (hvp : ∀ v, ol.vp = some v → v = some p)
    (e : (gchk cx en2 ol.gd (setA cx en2 t ⟨p, off, ol.gd⟩ ih)).f fr l h k = some r)
    (hsem : ∀ V γ w a, TOk (sta cx en fr l) V γ a (looksL ol) → gdX cx en fr l ol.gd = true → OpW P o a w fun v w' => w' = w ∧ v = .pointer (some ⟨γ p, off, none⟩)) : Out P cx ops o ol en fr l h ih k r := by
  obtain ⟨e1, hg⟩ := gchk_run e
  unfold setA at e1
  cases hG : mem cx.G t with
  | true => rw [hG] at e1; cases e1
  | false =>
    rw [hG] at e1
    obtain ⟨b1, c, b2, b3⟩ := bindA_ok (fr := fr) (a := ⟨p, off, ol.gd⟩) hw hpt hG hp
    rw [hs] at b2
    refine ⟨_, _, h, .pure [], .ptr p off c, none, e1, b1, by rw [ht]; exact b2, .refl _ _, .inl rfl, (fun q off' c' e hne => by cases e; exact .inr hvp), fun hfa => ⟨rfl, fun bb V γ w a hT hC => ?_⟩⟩
    rcases hg with hg | hg
    · rw [hgx] at hg
      exact (gw_run hL hw0 hT hg (hsem V γ w a hT hg)).mono fun v w' hv => ⟨hv.1, fun _ => hv.2⟩
    · refine gw_skip hL hw0 hT (hg.congr (vT_congr hdT hn)) ⟨rfl, fun hc => ?_⟩
      have := b3 hc
      rw [hg.not] at this; cases this
theorem ptr_val (hw : Wf cx en l) {x : Operand} {al : AL} {y : X} (hp : ptrP cx en x = some al) (hy : staC cx en fr l al.p = some y) (hx : ∀ j ∈ tmpOf x, j ∈ looksL ol) {V : Vw} {γ : Nat → Nat} {a : Act} (hT : TOk (sta cx en fr l) V γ a (looksL ol)) (hg : gdX cx en fr l al.gd = true) : a.eval x = .pointer (some ⟨γ al.p, al.off, none⟩) := by
  obtain ⟨j, rfl, _, h2⟩ := ptrP_sta (fr := fr) hw hp
  rcases h2 with ⟨h3, h4, h5, h6⟩ | h2
  · exact hT j (hx j (by simp [tmpOf])) _ (h6 y hy) rfl
  · exact hT j (hx j (by simp [tmpOf])) _ h2 hg
theorem opw_val {a : Act} {w : World} {v : Value} {Q : Value → World → Prop} (hr : (execOp a.eval o).run P w = .ok (.value v) w) (hq : Q v w) : OpW P o a w Q := fun next K hn => by
  unfold Oper.wp; rw [hr, Oper.upon_value]; exact hn v w hq
theorem tmp_look {x : Operand} (h : x ∈ opndsOf ol.op) : ∀ j ∈ tmpOf x, j ∈ looksL ol := fun j hj => by
  unfold looksL; exact List.mem_append_right _ (List.mem_flatMap.2 ⟨x, h, hj⟩)
theorem sealX_run {α : Type} {x : X} {z : α} {kk : X → α} : sealX x z kk = kk x := by cases x; rfl
theorem cMov_out (hL : Lnk P cx ops o ol) (hw : Wf cx en l) {x : Operand} (hop : ol.op = .mov x) (ho : o.op = .move x ∨ o.op = .assign x) (hd : ∀ t, ol.dst = some t → mem cx.PV t = false) (e : (cMov x cx ol en ih).f fr l h k = some r) : Out P cx ops o ol en fr l h ih k r := by
  have hlk : ∀ j ∈ tmpOf x, j ∈ looksL ol := tmp_look (by rw [hop]; simp [opndsOf])
  have hrun : ∀ (a : Act) (w : World), (execOp a.eval o).run P w = .ok (.value (a.eval x)) w := fun a w => by rcases ho with ho | ho <;> simp only [execOp, ho, Sem.run_pure]
  unfold cMov at e
  obtain ⟨hvp, e⟩ := cnd_f0 e
  cases hp : ptrP cx en x with
  | some al =>
    rw [hp] at e
    obtain ⟨t, ht, e1⟩ := oR_some (a := ol.dst) e
    cases hs : sameG al.gd ol.gd with
    | false => rw [hs] at e1; cases e1
    | true =>
      rw [hs] at e1
      obtain ⟨j, hx, hpv, _⟩ := ptrP_sta (fr := fr) hw hp
      obtain ⟨d, en2, e2, hw2, _, hy, hsta, hn, hgx, hdT⟩ := cont_some e1 hw hpv
      exact alias_out hL hw hw2 hsta hdT hn hgx ht (hd t ht) hpv (vpOk_some0 (hp ▸ hvp)) e2 fun V γ w a hT hg => opw_val (hrun a w) ⟨rfl, ptr_val hw hp hy hlk hT (sameG_gd hs hg)⟩
  | none =>
    rw [hp] at e
    cases hg : ol.gd with
    | some q =>
      rw [hg] at e
      exact p1_pure hL hw hd e hlk fun y h1 => xMov_ok ho
    | none =>
      rw [hg] at e
      cases ht : ol.dst with
      | none =>
        rw [ht] at e
        refine ⟨en, l, h, .pure [], .ptr 0 0 false, none, e, hw, ?_, .refl _ _, .inl rfl, (fun q off c e hne => absurd ht hne), fun hfa => ⟨rfl, fun bb V γ w a hT hC => ?_⟩⟩
        · rw [ht]
          exact ⟨fun k v hk => by show (if none = some k then some (SV.ptr 0 0 false) else staT cx en fr l k) = some v; rw [if_neg (by simp)]; exact hk, fun p x hp => hp⟩
        · exact gw_run hL hw hT (by rw [hg]; rfl) (opw_val (hrun a w) ⟨rfl, fun hc => by cases hc⟩)
      | some t =>
        rw [ht] at e
        obtain ⟨d, hd', e1⟩ := oR_some (a := dOf cx en x) e
        have hac : acOf cx en x = some (acD en.n d) := by show oD (dOf cx en x) none _ = _; rw [hd']
        have key : DOk en.n d → (ih (bindD en t d)).f fr l h k = some r → Out P cx ops o ol en fr l h ih k r := fun hdk e2 => by
          obtain ⟨b1, b2⟩ := bindD_ok (fr := fr) hw (hd t ht) hdk
          refine ⟨_, _, h, .pure [], .val (vD en fr l d), none, e2, b1, by rw [ht]; exact b2, .refl _ _, .inl rfl, (fun p off c e => by cases e), fun hfa => ⟨rfl, fun bb V γ w a hT hC => ?_⟩⟩
          exact gw_run hL hw hT (by rw [hg]; rfl) (opw_val (hrun a w) ⟨rfl, acOf_den hw hT hlk hac⟩)
        have hdok : DOk en.n d := by
          cases x with
          | tmp j => exact (dT_sta (fr := fr) hw hd').2
          | const v =>
            have : cnd (oneB v) (some (D.con (encV v))) none = some d := hd'
            cases h1 : oneB v <;> rw [h1] at this <;> cases this
            trivial
          | func f =>
            have : cnd (Nat.blt f 1000000) (some (D.con ⟨32 * f + 9, [], oZ⟩)) none = some d := hd'
            cases h1 : Nat.blt f 1000000 <;> rw [h1] at this <;> cases this
            trivial
          | global g => cases hd'
        cases d with
        | loc p => exact key hdok e1
        | slot j => exact key hdok e1
        | con y =>
          have e2 : (sealX y frN fun y => ih (bindD en t (.con y))).f fr l h k = some r := e1
          rw [sealX_run] at e2
          exact key hdok e2
theorem cFaddr_out (hL : Lnk P cx ops o ol) (hw : Wf cx en l) {x : Operand} {ty : TypeId} {fs : Array Field} {fi sz : Nat} {fd : Field} (h1 : P.underlying ty = some (.struct fs)) (h2 : fs[fi]? = some fd) (h3 : Go.Eng.sizeP P fd.type = some sz) (h4 : sz ≠ 0)
    (ho : o.op = .fieldAddr ty x fi) (hop : ol.op = .faddr fd.offset x) (hd : ∀ t, ol.dst = some t → mem cx.PV t = false) (e : (cFaddr fd.offset x cx ol en ih).f fr l h k = some r) : Out P cx ops o ol en fr l h ih k r := by
  have hlk : ∀ j ∈ tmpOf x, j ∈ looksL ol := tmp_look (by rw [hop]; simp [opndsOf])
  unfold cFaddr at e
  obtain ⟨hvp, e⟩ := cnd_f0 e
  cases hp : ptrP cx en x with
  | none =>
    rw [hp] at e
    exact p1_pure hL hw hd e hlk fun y h1' => xFaddr_ok h1 h2 h3 h4 ho
  | some al =>
    rw [hp] at e
    obtain ⟨t, ht, e1⟩ := oR_some (a := ol.dst) e
    cases hs : sameG al.gd ol.gd with
    | false => rw [hs] at e1; cases e1
    | true =>
      rw [hs] at e1
      obtain ⟨j, hx, hpv, _⟩ := ptrP_sta (fr := fr) hw hp
      obtain ⟨d, en2, e2, hw2, _, hy, hsta, hn, hgx, hdT⟩ := cont_some e1 hw hpv
      exact alias_out hL hw hw2 hsta hdT hn hgx ht (hd t ht) hpv (vpOk_some0 (hp ▸ hvp)) e2 fun V γ w a hT hg => opw_val (run_faddr h1 h2 h3 h4 ho (ptr_val hw hp hy hlk hT (sameG_gd hs hg))) ⟨rfl, rfl⟩
theorem cNilc_out (hL : Lnk P cx ops o ol) (hw : Wf cx en l) {x : Operand} (ho : o.op = .nilCheck x) (hop : ol.op = .nilc x) (hd : ∀ t, ol.dst = some t → mem cx.PV t = false) (e : (cNilc x cx ol en ih).f fr l h k = some r) : Out P cx ops o ol en fr l h ih k r := by
  have hlk : ∀ j ∈ tmpOf x, j ∈ looksL ol := tmp_look (by rw [hop]; simp [opndsOf])
  unfold cNilc at e
  obtain ⟨hvp, e⟩ := cnd_f0 e
  cases hp : ptrP cx en x with
  | none =>
    rw [hp] at e
    exact p1_pure hL hw hd e hlk fun y h1' => xNilc_ok ho
  | some al =>
    rw [hp] at e
    obtain ⟨t, ht, e1⟩ := oR_some (a := ol.dst) e
    cases hs : sameG al.gd ol.gd with
    | false => rw [hs] at e1; cases e1
    | true =>
      rw [hs] at e1
      obtain ⟨j, hx, hpv, _⟩ := ptrP_sta (fr := fr) hw hp
      obtain ⟨d, en2, e2, hw2, _, hy, hsta, hn, hgx, hdT⟩ := cont_some e1 hw hpv
      refine alias_out hL hw hw2 hsta hdT hn hgx ht (hd t ht) hpv (vpOk_some0 (hp ▸ hvp)) e2 fun V γ w a hT hg => ?_
      have hv := ptr_val hw hp hy hlk hT (sameG_gd hs hg)
      exact opw_val (by simp only [execOp, ho, hv, Sem.run_pure]) ⟨rfl, rfl⟩
end
end
end Go.M
set_option maxHeartbeats 1000000
namespace Go.M
open Go
open Go.Eng (SOp SOper SCode)
noncomputable section
variable [Ctxt]
theorem CtR.agg {V : Vw} {c : X} {cells : Array Value} (h : CtR V c cells) (ht : c.n % 32 = 2) : denL V c.l cells.toList ∧ (∀ v ∈ cells.toList, one v) ∧ cells.size = c.n / 32 := by
  obtain ⟨_, u, h1, h2, h3⟩ := h
  obtain ⟨vs, rfl, g1, g2, g3⟩ := (den2 ht).1 h1
  have : cells = vs.toArray := by rw [← h2]; rfl
  subst this
  exact ⟨g2, h3, by simpa using g3⟩
theorem one_cells {u : Value} (h : one u) : u.cells = #[u] := by
  unfold one at h
  cases u <;> first | rfl | (simp [Value.oneCell'] at h)
theorem CtR.sing {V : Vw} {c : X} {cells : Array Value} (h : CtR V c cells) (ht : c.n % 32 ≠ 2) (h3 : c.n % 32 ≠ 3) (h14 : c.n % 32 ≠ 14) : ∃ u, den V c u ∧ cells = #[u] ∧ one u := by
  obtain ⟨_, u, h1, h2, h4⟩ := h
  have ho := den_one h1 ht h3 h14
  exact ⟨u, h1, by rw [← h2, one_cells ho], ho⟩
theorem CtR.mkS {V : Vw} {c : X} {u : Value} (hd : den V c u) (h2 : c.n % 32 ≠ 2) (h3 : c.n % 32 ≠ 3) (h14 : c.n % 32 ≠ 14) : CtR V c #[u] := by
  have ho := den_one hd h2 h3 h14
  exact ⟨fun e => h14 (by rw [e]), u, hd, one_cells ho, by simpa using ho⟩
theorem CtR.mkA {V : Vw} {n : Nat} {l : List X} {o : Value} {cells : Array Value} (hl : denL V l cells.toList) (h1 : ∀ v ∈ cells.toList, one v) (hn : n = 32 * cells.size + 2) : CtR V ⟨n, l, o⟩ cells := by
  refine ⟨fun e => ?_, .agg cells, ?_, rfl, h1⟩
  · have : n = 14 := e
    omega
  · have := agg_den (V := V) (l := l) (vs := cells.toList) (n := n) (o := o) (by simpa using hn) h1 hl
    simpa using this
theorem CtR.of {V : Vw} {c : X} {u : Value} (hd : den V c u) (h3 : c.n % 32 ≠ 3) (h14 : c.n % 32 ≠ 14) : CtR V c u.cells := by
  by_cases h2 : c.n % 32 = 2
  · obtain ⟨vs, rfl, g1, g2, g3⟩ := (den2 h2).1 hd
    exact ⟨fun e => h14 (by rw [e]), _, hd, rfl, fun v hv => g1 v (by simpa [Value.cells] using hv)⟩
  · rw [one_cells (den_one hd h2 h3 h14)]; exact .mkS hd h2 h3 h14
theorem land31' {n m : Nat} (h : Nat.beq (Nat.land n 31) m = false) : n % 32 ≠ m := by rw [← land31]; exact beqF h
theorem xLoadC_some {ag : Bool} {off sz : Nat} {c : X} {h : Hp} {kk : Kx} {r} (e : xLoadC ag off sz c h kk = some r) : ∃ x, kk x h = some r ∧ ∀ V cells, CtR V c cells →
    if ag then ∃ vs : List Value, den V x (.agg vs.toArray) ∧ vs.length = sz ∧ ∀ j v, vs[j]? = some v → cells[off + j]? = some v else ∃ v, den V x v ∧ cells[off]? = some v := by
  unfold xLoadC at e
  rw [opn_eq] at e
  have hc : (⟨c.n, c.l, c.o⟩ : X) = c := by cases c; rfl
  rcases cndR_some e with ⟨t2, e1⟩ | ⟨t2, e1⟩
  · have ht := tagT t2
    rcases cndR_some e1 with ⟨hag, e2⟩ | ⟨hag, e2⟩
    · rcases cndR_some e2 with ⟨hn, e3⟩ | ⟨hn, e3⟩
      · obtain ⟨h0, e4⟩ := cndR_t e3
        rw [hc] at e4
        have h0 := beqT h0
        have hn : c.n = 32 * sz + 2 := beqT hn
        refine ⟨c, e4, fun V cells hR => ?_⟩
        rw [if_pos hag]
        obtain ⟨g1, g2, g3⟩ := hR.agg ht
        refine ⟨cells.toList, ?_, by simp; omega, fun j v hj => ?_⟩
        · have := agg_den (V := V) (l := c.l) (vs := cells.toList) (n := c.n) (o := c.o) (by simp; omega) g2 g1
          rw [hc] at this; exact this
        rw [h0, Nat.zero_add]; simpa using hj
      · obtain ⟨g1, e4⟩ := dropB_some e3
        obtain ⟨g2, e5⟩ := takeB_some e4
        refine ⟨_, e5, fun V cells hR => ?_⟩
        rw [if_pos hag]
        obtain ⟨q1, q2, q3⟩ := hR.agg ht
        have hlen := denL_length q1
        have hd2 := denL_take sz (denL_drop off q1)
        have hl2 : ((cells.toList.drop off).take sz).length = sz := by
          have := denL_length hd2
          rw [this]; simp; simp at g2; omega
        refine ⟨_, agg_den (by rw [hl2]; rfl) (fun v hv => q2 v (List.mem_of_mem_drop (List.mem_of_mem_take hv))) hd2, hl2, fun j v hj => ?_⟩
        rw [List.getElem?_take] at hj
        split at hj
        · rw [List.getElem?_drop] at hj; simpa using hj
        · cases hj
    · obtain ⟨x, hx, e3⟩ := nthB_some e2
      rw [xMov_eq] at e3
      refine ⟨x, e3, fun V cells hR => ?_⟩
      rw [if_neg (by rw [hag]; decide)]
      obtain ⟨q1, q2, q3⟩ := hR.agg ht
      obtain ⟨v, hv, hd⟩ := denL_get q1 hx
      exact ⟨v, hd, by simpa using hv⟩
  · obtain ⟨h0, e2⟩ := cndR_t e1
    rcases cndR_some e2 with ⟨_, e3⟩ | ⟨hag, e3⟩
    · cases e3
    · rw [hc] at e3
      have h0 := beqT h0
      refine ⟨c, e3, fun V cells hR => ?_⟩
      rw [if_neg (by rw [hag]; decide)]
      obtain ⟨hne, u, h1, h2, h3⟩ := hR
      obtain ⟨v, hv⟩ : ∃ v, u = v ∧ u.cells = #[v] := by
        refine ⟨u, rfl, ?_⟩
        obtain ⟨n, l, o⟩ := c
        have ht := land31' t2
        simp only at ht
        unfold den at h1
        split at h1
        · subst h1; rfl
        · subst h1; rfl
        · exact absurd (by assumption) ht
        · obtain ⟨vs, rfl, _⟩ := h1; rfl
        · subst h1; rfl
        · subst h1; rfl
        · subst h1; rfl
        · rw [h1.2]; rfl
        · obtain ⟨_, cap, rfl, _⟩ := h1; rfl
        · obtain ⟨vs, rfl, _⟩ := h1; unfold funV; split <;> rfl
        · rw [h1.2]; rfl
        · obtain ⟨a, c, rfl⟩ := h1; rfl
        · rw [h1.1]; exact one_cells h1.2
        · rw [h1.1]; exact one_cells h1.2
        · subst h1; rfl
        · obtain ⟨a, n, c, rfl⟩ := h1; rfl
        · exact h1.elim
      obtain ⟨rfl, hv⟩ := hv
      refine ⟨u, h1, ?_⟩
      rw [h0, ← h2, hv]; rfl
theorem xStoreC_some {off sz : Nat} {c y : X} {h : Hp} {kk : Kx} {r} (e : xStoreC off sz c y h kk = some r) : ∃ x, kk x h = some r ∧ ∀ V cells u, CtR V c cells → den V y u →
    off + sz ≤ cells.size ∧ u.cells.size = sz ∧ (∀ v ∈ u.cells.toList, one v) ∧ CtR V x (Go.Eng.pasted cells off u.cells) := by
  unfold xStoreC at e
  rw [opn_eq, opn_eq] at e
  have hy : (⟨y.n, y.l, y.o⟩ : X) = y := by cases y; rfl
  have whole : ∀ V (cells : Array Value) u, den V y u → y.n % 32 ≠ 3 → y.n % 32 ≠ 14 → off = 0 → cells.size = sz → u.cells.size = sz → (∀ v ∈ u.cells.toList, one v) →
      off + sz ≤ cells.size ∧ u.cells.size = sz ∧ (∀ v ∈ u.cells.toList, one v) ∧ CtR V y (Go.Eng.pasted cells off u.cells) := by
    intro V cells u hd h3 h14 h0 hs hu h1
    refine ⟨by omega, hu, h1, ?_⟩
    have : Go.Eng.pasted cells off u.cells = u.cells := by
      apply Array.ext
      · rw [Go.Eng.pasted_size _ _ _ (by omega)]; omega
      · intro i hi hi2
        have := Go.Eng.pasted_get cells off u.cells (by omega) i
        subst h0
        rw [if_neg (Nat.not_lt_zero _), if_pos (by omega), Nat.sub_zero, Array.getElem?_eq_getElem hi2] at this
        rw [Array.getElem?_eq_getElem hi] at this
        exact Option.some.inj this
    rw [this]; exact .of hd h3 h14
  rcases cndR_some e with ⟨hnm, e1⟩ | ⟨hnm, e1⟩
  · obtain ⟨h0, e2⟩ := cndR_t e1
    have hnm : c.n = y.n := beqT hnm
    have h0 := beqT h0
    rcases cndR_some e2 with ⟨hn, e3⟩ | ⟨hn, e3⟩
    · have hn : c.n = 32 * sz + 2 := beqT hn
      rw [hy] at e3
      refine ⟨y, e3, fun V cells u hR hd => ?_⟩
      obtain ⟨q1, q2, q3⟩ := hR.agg (by omega)
      have hy2 : y.n % 32 = 2 := by omega
      obtain ⟨vs, rfl, g1, g2, g3⟩ := (den2 hy2).1 hd
      exact whole V cells _ hd (by omega) (by omega) h0 (by omega) (by show vs.toArray.size = sz; simp; omega) (by show ∀ v ∈ vs.toArray.toList, one v; simpa using g1)
    · rcases cndR_some e3 with ⟨_, e4⟩ | ⟨t2, e4⟩
      · cases e4
      · obtain ⟨h1, e5⟩ := cndR_t e4
        rcases cndR_some e5 with ⟨_, e6⟩ | ⟨t3, e6⟩
        · cases e6
        · rcases cndR_some e6 with ⟨_, e7⟩ | ⟨t14, e7⟩
          · cases e7
          · rw [hy] at e7
            refine ⟨y, e7, fun V cells u hR hd => ?_⟩
            have t2 := land31' t2
            have t3 := land31' t3
            have t14 := land31' t14
            obtain ⟨u0, g1, rfl, g3⟩ := hR.sing t2 (by rw [hnm]; exact t3) (by rw [hnm]; exact t14)
            have hou := den_one hd (by rw [← hnm]; exact t2) t3 t14
            have h1 := beqT h1
            exact whole V _ u hd t3 t14 h0 (by simp [h1]) (by rw [one_cells hou]; simp [h1]) (by rw [one_cells hou]; simpa using hou)
  · rcases cndR_some e1 with ⟨t2, e2⟩ | ⟨t2, e2⟩
    · have t2 := tagT t2
      rcases cndR_some e2 with ⟨m2, e3⟩ | ⟨m2, e3⟩
      · have m2 := tagT m2
        obtain ⟨hm, e4⟩ := cndR_t e3
        have hm : y.n = 32 * sz + 2 := beqT hm
        obtain ⟨hf, e5⟩ := splB_some e4
        refine ⟨_, e5, fun V cells u hR hd => ?_⟩
        obtain ⟨q1, q2, q3⟩ := hR.agg t2
        obtain ⟨vs, rfl, g1, g2, g3⟩ := (den2 m2).1 hd
        obtain ⟨a1, a2, a3⟩ := denL_paste (vs := vs.toArray) q1 q2 (by simpa using g2) (by simpa using g1) hf
        have hvs : vs.length = sz := by omega
        refine ⟨by simpa [hvs] using a1, by show vs.toArray.size = sz; simp [hvs], by show ∀ v ∈ vs.toArray.toList, one v; simpa using g1, ?_⟩
        exact .mkA a2 a3 (by show c.n = 32 * (Go.Eng.pasted cells off vs.toArray).size + 2; rw [Go.Eng.pasted_size _ _ _ a1]; omega)
      · have m2 := land31' m2
        obtain ⟨h1, e4⟩ := cndR_t e3
        have h1 := beqT h1
        rcases cndR_some e4 with ⟨_, e5⟩ | ⟨t3, e5⟩
        · cases e5
        · rcases cndR_some e5 with ⟨_, e6⟩ | ⟨t14, e6⟩
          · cases e6
          · obtain ⟨hlt, e7⟩ := setB_some e6
            refine ⟨_, e7, fun V cells u hR hd => ?_⟩
            have t3 := land31' t3
            have t14 := land31' t14
            obtain ⟨q1, q2, q3⟩ := hR.agg t2
            have hou := den_one hd m2 t3 t14
            obtain ⟨a1, a2, a3⟩ := denL_paste (vs := #[u]) (ys := [y]) (off := off) q1 q2 (by simpa using denL_cons.2 ⟨u, [], rfl, hd, denL_nil.2 rfl⟩) (by simpa using hou) (by show off + 1 ≤ _; omega)
            rw [one_cells hou]
            refine ⟨by rw [h1]; simpa using a1, by simp [h1], by simpa using hou, ?_⟩
            rw [hy, set_splice hlt]
            exact .mkA a2 a3 (by show c.n = 32 * (Go.Eng.pasted cells off #[u]).size + 2; rw [Go.Eng.pasted_size _ _ _ a1]; omega)
    · have t2 := land31' t2
      obtain ⟨h0, e3⟩ := cndR_t e2
      have h0 := beqT h0
      obtain ⟨h1, e4⟩ := cndR_t e3
      have h1 := beqT h1
      rcases cndR_some e4 with ⟨_, e5⟩ | ⟨m2, e5⟩
      · cases e5
      · rcases cndR_some e5 with ⟨_, e6⟩ | ⟨m3, e6⟩
        · cases e6
        · rcases cndR_some e6 with ⟨_, e7⟩ | ⟨m14, e7⟩
          · cases e7
          · rw [hy] at e7
            refine ⟨y, e7, fun V cells u hR hd => ?_⟩
            have m2 := land31' m2
            have m3 := land31' m3
            have m14 := land31' m14
            have hou := den_one hd m2 m3 m14
            have hs1 : cells.size = 1 := by
              obtain ⟨hne, u0, g1, g2, g3⟩ := hR
              obtain ⟨n, l, o⟩ := c
              simp only at t2
              rw [← g2]
              unfold den at g1
              split at g1
              · subst g1; rfl
              · subst g1; rfl
              · exact absurd (by assumption) t2
              · obtain ⟨vs, rfl, _⟩ := g1; rfl
              · subst g1; rfl
              · subst g1; rfl
              · subst g1; rfl
              · rw [g1.2]; rfl
              · obtain ⟨_, cap, rfl, _⟩ := g1; rfl
              · obtain ⟨vs, rfl, _⟩ := g1; unfold funV; split <;> rfl
              · rw [g1.2]; rfl
              · obtain ⟨a, c, rfl⟩ := g1; rfl
              · rw [g1.1, one_cells g1.2]; rfl
              · rw [g1.1, one_cells g1.2]; rfl
              · subst g1; rfl
              · obtain ⟨a, n, c, rfl⟩ := g1; rfl
              · exact g1.elim
            exact whole V _ u hd m3 m14 h0 (by omega) (by rw [one_cells hou]; simp [h1]) (by rw [one_cells hou]; simpa using hou)
end
end Go.M
set_option maxHeartbeats 1000000
namespace Go.M
open Go
open Go.Eng (SOp SOper SCode)
noncomputable section
variable [Ctxt]
section
variable {P : Program} {cx : Cx} {ops : Array Oper} {o : Oper} {ol : OL} {en : En} {fr : FX} {l : Loc} {h : Hp} {k : Kc} {r : List Prop} {ih : En → FR}
theorem cnd_f {b : Bool} {x : FR} (e : (cnd b x frN).f fr l h k = some r) : b = true ∧ x.f fr l h k = some r := by
  cases b
  · cases e
  · exact ⟨rfl, e⟩
theorem noG_f {x : FR} (e : (noG ol x).f fr l h k = some r) : ol.gd = none ∧ x.f fr l h k = some r := by
  unfold noG at e
  cases hg : ol.gd with
  | none => rw [hg] at e; exact ⟨rfl, e⟩
  | some q => rw [hg] at e; cases e
theorem vpOk_none {v : Option (Option Nat)} (h : vpOk v none = true) : ∀ q, v = some q → q = none := fun q hq => by
  subst hq
  cases q with
  | none => rfl
  | some p => cases h
theorem vpOk_some {v : Option (Option Nat)} {a : AL} (h : vpOk v (some a) = true) : ∀ q, v = some q → q = some a.p := fun q hq => by
  subst hq
  cases q with
  | none => cases h
  | some p => rw [beqT h]
theorem cLoad_out (hL : Lnk P cx ops o ol) (hw : Wf cx en l) (hfn : h.fl ≤ h.n) {ag : Bool} {sz : Nat} {x : Operand} {ty : TypeId} (ha : Go.Eng.aggP P ty = some ag) (hs : Go.Eng.sizeP P ty = some sz) (ho : o.op = .load ty x) (hop : ol.op = .load ag sz x)
    (hd : ∀ t, ol.dst = some t → mem cx.PV t = false) (e : (cLoad ag sz x cx ol en ih).f fr l h k = some r) : Out P cx ops o ol en fr l h ih k r := by
  have hlk : ∀ j ∈ tmpOf x, j ∈ looksL ol := tmp_look (by rw [hop]; simp [opndsOf])
  unfold cLoad at e
  obtain ⟨hvp, e⟩ := cnd_f e
  cases hp : ptrP cx en x with
  | none =>
    rw [hp] at e hvp
    exact p1_heap false hL hw hd hfn (by rw [hop]; show (1 : Nat) ≠ 0; omega) (fun h => by cases h) (fun _ => vpOk_none hvp) e hlk fun y h1 fl _ => xLoad_ok ha hs ho
  | some al =>
    rw [hp] at e hvp
    obtain ⟨hsg, e1⟩ := cnd_f e
    obtain ⟨j, hx, hpv, _⟩ := ptrP_sta (fr := fr) hw hp
    obtain ⟨d, en2, e2, hw2, _, hy, hsta, hn, hgx, hdT⟩ := cont_some e1 hw hpv
    obtain ⟨y, h', g1, g2⟩ := gen_run (Pr := fun y h2 => h2 = (if ol.flo then unfl h.n h else h) ∧ ∀ V cells, CtR V (vD en2 fr l d) cells → if ag then ∃ vs : List Value, den V y (.agg vs.toArray) ∧ vs.length = sz ∧ ∀ j v, vs[j]? = some v → cells[al.off + j]? = some v else ∃ v, den V y v ∧ cells[al.off]? = some v) e2 fun kk ek => by
      obtain ⟨y, h2, h3⟩ := xLoadC_some ek
      exact ⟨y, _, h2, rfl, h3⟩
    obtain ⟨b1, b2⟩ := bnd_ok (fr := fr) (ol := ol) hw2 hd y
    rw [hsta] at b2
    have hh : h' = h := by
      rcases g2 with ⟨h2, ⟨h3, _⟩, h4, _⟩ | ⟨_, h4, _⟩
      · subst h3; subst h4; split <;> rfl
      · exact h4
    subst hh
    refine ⟨_, _, h', .pure [al.p], .val y, none, g1, b1, b2, .refl _ _, .inr ⟨al.p, rfl, vpOk_some hvp, ag, sz, x, hop⟩, (fun p off c e => by cases e), fun hfa => ⟨rfl, fun bb V γ w a hT hC => ?_⟩⟩
    rcases g2 with ⟨h2, ⟨h3, h6⟩, h4, h5⟩ | ⟨rfl, h4, h5⟩
    · rw [hgx] at h5
      refine gw_run hL hw hT h5 ?_
      obtain ⟨_, ⟨cells, ety, c1, c2⟩, _⟩ := hC al.p (by simp) _ hy
      have hv := ptr_val hw hp hy hlk hT (sameG_gd hsg h5)
      have h7 := h6 V cells c2
      cases ag with
      | true =>
        simp only [if_true] at h7
        obtain ⟨vs, q1, q2, q3⟩ := h7
        refine opw_val (run_loadA ha hs ho hv q2 fun j v hj => ?_) ⟨rfl, q1⟩
        have := q3 j v hj
        rw [Go.Eng.cell_heap c1]; exact this
      | false =>
        simp only [Bool.false_eq_true, if_false] at h7
        obtain ⟨v, q1, q2⟩ := h7
        refine opw_val (run_load1 ha ho hv ?_) ⟨rfl, q1⟩
        rw [Go.Eng.cell_heap c1]; exact q2
    · exact gw_skip hL hw hT (h5.congr (vT_congr hdT hn)) ⟨rfl, (den_xU : den V xU undef)⟩
theorem cStore_out (hL : Lnk P cx ops o ol) (hw : Wf cx en l) (hfn : h.fl ≤ h.n) {sz : Nat} {x y : Operand} {ty : TypeId} (hs : Go.Eng.sizeP P ty = some sz) (ho : o.op = .store ty x y) (hop : ol.op = .store sz x y)
    (hd : ∀ t, ol.dst = some t → mem cx.PV t = false) (e : (cStore sz x y cx ol en ih).f fr l h k = some r) : Out P cx ops o ol en fr l h ih k r := by
  have hlk : ∀ j ∈ tmpOf x, j ∈ looksL ol := tmp_look (by rw [hop]; simp [opndsOf])
  have hlky : ∀ j ∈ tmpOf y, j ∈ looksL ol := tmp_look (by rw [hop]; simp [opndsOf])
  unfold cStore at e
  obtain ⟨hvp, e⟩ := cnd_f e
  cases hp : ptrP cx en x with
  | none =>
    rw [hp] at e hvp
    exact p2_heap true hL hw hd hfn (by rw [hop]; show (3 : Nat) ≠ 0; omega) (fun _ => by rw [hop]; exact Nat.le_refl 3) (fun _ => vpOk_none hvp) e hlk hlky fun u v h1 fl hf => xStore_ok hs ho (hf rfl)
  | some al =>
    rw [hp] at e hvp
    obtain ⟨hgd, e0⟩ := noG_f e
    obtain ⟨hsg, e1⟩ := cnd_f e0
    obtain ⟨j, hx, hpv, _⟩ := ptrP_sta (fr := fr) hw hp
    obtain ⟨d, en2, e2, hw2, _, hy, hsta, hn, hgx, hdT⟩ := cont_some e1 hw hpv
    obtain ⟨b, hb, e3⟩ := oR_some (a := acOf cx en2 y) e2
    have e4 : xStoreC al.off sz (vD en2 fr l d) (b.g fr l) h (fun x h => (ih (pushC en2 al.p)).f fr (x :: l) h k) = some r := e3
    obtain ⟨z, e5, hz⟩ := xStoreC_some e4
    obtain ⟨b1, b2⟩ := pushC_ok (fr := fr) (p := al.p) (y := vD en2 fr l d) hw2 hpv (by have := congrFun (congrArg Sta.C hsta) al.p; exact this.trans hy) z (.ptr 0 0 false)
    rw [hsta] at b2
    have hdn := hL.st _ _ _ hop
    refine ⟨_, _, h, .store al.p, .ptr 0 0 false, some (al.p, z), e5, b1, by rw [hdn]; exact b2, .refl _ _, ⟨vpOk_some hvp, hdn, sz, x, y, hop⟩, (fun q off c e hne => absurd hdn hne), fun hfa => ⟨rfl, z, _, rfl, hy, fun bb V γ w a hT hC => ?_⟩⟩
    refine gw_run hL hw hT (by rw [hgd]; rfl) ?_
    obtain ⟨_, ⟨cells, ety, c1, c2⟩, _⟩ := hC al.p (by simp) _ hy
    have hv := ptr_val hw hp hy hlk hT (sameG_gd (g' := none) hsg rfl)
    have hdy : den V (b.g fr l) (a.eval y) := acOf_den (LT := looksL ol) hw2 (by rw [hsta]; exact hT) hlky hb
    obtain ⟨q1, q2, q3, q4⟩ := hz V cells _ c2 hdy
    intro next K hnx
    unfold Oper.wp
    rw [run_store hs ho hv q2 q3 c1 q1, Oper.upon_skip]
    refine hnx _ _ ⟨_, ety, ⟨setRow_heap w (γ al.p) cells _ ety (0, 0) c1, fun k hk => Go.Eng.heap_setRow_other w _ k _ hk, rfl, rfl, rfl⟩, by simp, q4⟩
theorem zsOf_den {V : Vw} {zs : List Value} (h1 : zs.all oneB = true) : denL V (zsOf zs) zs ∧ ∀ v ∈ zs, one v := ⟨denL_const (all_one h1), all_one h1⟩
theorem opw_new {a : Act} {w w' : World} {v : Value} {Q : Value → World → Prop} (hr : (execOp a.eval o).run P w = .ok (.value v) w') (hq : Q v w') : OpW P o a w Q := fun next K hn => by
  unfold Oper.wp; rw [hr, Oper.upon_value]; exact hn v w' hq
theorem setAt_alloc (w : World) (ob : Obj) : SetAt w (w.alloc ob) w.heap.size ob ∧ (w.alloc ob).heap.size = w.heap.size + 1 := by
  refine ⟨⟨heap_new w ob, fun k hk => ?_, rfl, rfl, rfl⟩, heap_size w ob⟩
  rcases Nat.lt_or_ge k w.heap.size with h | h
  · exact heap_old w ob h
  · rw [Array.getElem?_eq_none (by rw [heap_size]; omega), Array.getElem?_eq_none h]
theorem new_varR {w0 : World} {V : Vw} {w : World} {rows : List X} {vs : List Value} {e n : Nat} {bo : Value} {ety : TypeId} {x : X} (hm : MR w0 V h w) (hn : h.n < 65536) (h0 : 0 < e) (hN : n = 32 * e + 1)
    (hR : ∀ V', RowsR V' e rows vs.toArray) (hl : rows.length * e = vs.length) (hx : ∀ V, V.S h.n → den V x (.pointer (some ⟨V.ρ h.n, 0, none⟩))) (fl : Nat) :
    Res RM P w0 fl V h w x (hAl h ⟨n, rows, bo⟩) (.ok (.value (.pointer (some ⟨w.heap.size, 0, none⟩))) (w.alloc (.cells vs.toArray ety))) := by
  subst hN
  have hB : BlkR (addV V h.n w.heap.size vs.length e) (w.alloc (.cells vs.toArray ety)) h.n ⟨32 * e + 1, rows, bo⟩ := by
    unfold BlkR
    simp only [show (32 * e + 1) % 32 = 1 by omega]
    rw [addV_ρ, addV_σ, addV_ε]
    exact ⟨vs.toArray, ety, heap_new w _, by simp, by omega, h0, hl, hR _⟩
  obtain ⟨h2, h3⟩ := hm.alloc (w' := w.alloc (.cells vs.toArray ety)) hn (g := w.heap.size) (s := vs.length) (e := e) (Nat.le_refl _) (by rw [heap_size]; omega) (fun k hk => heap_old w _ hk) rfl rfl rfl hB fl
  refine ⟨_, _, _, .inl rfl, h2, ?_, h3⟩
  have := hx (addV V h.n w.heap.size vs.length e) (.inr rfl)
  rw [addV_ρ] at this
  exact this
theorem chunk_ok {V : Vw} {sz : Nat} : ∀ (m : Nat) {l : List X} {vs : List Value}, denL V l vs → (∀ v ∈ vs, one v) → vs.length = m * sz → (chunk sz m l).length = m ∧
    ∀ (q : Nat) row, (chunk sz m l)[q]? = some row → row.n = 32 * sz + 2 ∧ row.l.length = sz ∧ ∀ (j : Nat) c, row.l[j]? = some c → ∃ u, vs[q * sz + j]? = some u ∧ one u ∧ den V c u
  | 0, l, vs, _, _, _ => ⟨rfl, fun q row hq => by
    have e : chunk sz 0 l = [] := rfl
    rw [e] at hq
    simp at hq⟩
  | m + 1, l, vs, hd, h1, hl => by
    have hm : (m + 1) * sz = m * sz + sz := Nat.succ_mul m sz
    have hll : l.length = vs.length := (denL_length hd).symm
    obtain ⟨c1, c2⟩ := chunk_ok (sz := sz) m (denL_drop sz hd) (fun v hv => h1 v (List.mem_of_mem_drop hv)) (by rw [List.length_drop]; omega)
    have e : chunk sz (m + 1) l = ⟨32 * sz + 2, l.take sz, oZ⟩ :: chunk sz m (l.drop sz) := rfl
    refine ⟨by rw [e]; simp [c1], fun q row hq => ?_⟩
    rw [e] at hq
    cases q with
    | zero =>
      simp at hq
      subst hq
      have hts : (l.take sz).length = sz := by rw [List.length_take]; omega
      refine ⟨rfl, hts, fun j c hj => ?_⟩
      have hj : (l.take sz)[j]? = some c := hj
      have hjs : j < sz := by
        have := (List.getElem?_eq_some_iff.1 hj).1
        omega
      rw [List.getElem?_take_of_lt hjs] at hj
      obtain ⟨v, h2, h3⟩ := denL_get hd hj
      exact ⟨v, by rw [Nat.zero_mul, Nat.zero_add]; exact h2, one_list h1 h2, h3⟩
    | succ q =>
      simp only [List.getElem?_cons_succ] at hq
      obtain ⟨g1, g2, g3⟩ := c2 q row hq
      refine ⟨g1, g2, fun j c hj => ?_⟩
      obtain ⟨u, h2, h3⟩ := g3 j c hj
      refine ⟨u, ?_, h3⟩
      rw [List.getElem?_drop] at h2
      rw [Nat.succ_mul, show q * sz + sz + j = sz + (q * sz + j) by omega]
      exact h2
theorem allocA_ok {fl : Nat} {el : TypeId} {zs : List Value} (sz : Nat) (hz : Go.Eng.zerosOf P el = some zs) (ho : o.op = .alloc el) (h1 : zs.all Value.oneCell' = true) (h0 : 0 < zs.length) :
    CoreOk P fl o [] h (allocP (blkA zs sz)) := by
  have old := alloc_ok (fl := fl) (h := h) hz ho h1 h0 rfl
  unfold blkA
  cases hs : Nat.beq sz 0 with
  | true => exact old
  | false =>
    cases hc : Nat.beq (Nat.mul (Nat.div zs.length sz) sz) zs.length with
    | false => exact old
    | true =>
      have hs := beqF hs
      have hc := beqT hc
      have hc : zs.length / sz * sz = zs.length := hc
      intro k r e
      obtain ⟨hn, x, e1, hx⟩ := allocP_some e
      refine ⟨x, _, e1, .al _ _ _ hn, fun _ w0 V w ev hm hd _ => ?_⟩
      rw [run_alloc hz ho]
      have hch := fun V' => chunk_ok (V := V') (sz := sz) (zs.length / sz) (zsOf_den h1).1 (zsOf_den (V := V') h1).2 hc.symm
      refine new_varR hm hn (by omega) rfl (fun V' q row hq => ?_) ?_ hx fl
      · obtain ⟨g1, g2, g3⟩ := (hch V').2 q row hq
        exact ⟨g1, g2, fun j c hj => by
          obtain ⟨u, h2, h3, h4⟩ := g3 j c hj
          exact ⟨u, by simpa using h2, h3, h4⟩⟩
      · have := (hch V).1
        show (chunk sz (zs.length / sz) (zsOf zs)).length * sz = _
        rw [this, hc]
theorem cAlloc_out (hL : Lnk P cx ops o ol) (hw : Wf cx en l) (hfn : h.fl ≤ h.n) {el : TypeId} {zs : List Value} (hz : Go.Eng.zerosOf P el = some zs) (ho : o.op = .alloc el) (hop : ol.op = .alloc zs)
    (e : (cAlloc zs cx ol en ih).f fr l h k = some r) : Out P cx ops o ol en fr l h ih k r := by
  unfold cAlloc at e
  obtain ⟨hc, e⟩ := cnd_f e
  rw [sealX_run] at e
  simp only [Bool.and_eq_true] at hc
  obtain ⟨h1, h0⟩ := hc
  have h0 : 0 < zs.length := by simpa [Nat.blt_eq] using h0
  cases ht : ol.dst with
  | none => rw [ht] at e; cases e
  | some t =>
    rw [ht] at e
    dsimp only at e
    cases hpv : mem cx.PV t with
    | false =>
      rw [hpv] at e
      have e' : (sealX (blkA zs (szOf cx.FL t)) frN fun blk => gen cx ol en ih ⟨fun _ _ h k => allocP blk h k⟩).f fr l h k = some r := e
      rw [sealX_run] at e'
      exact gen_heap false hL hw (fun t' ht' => by rw [ht] at ht'; cases ht'; exact hpv) hfn (by rw [hop]; show (2 : Nat) ≠ 0; omega) (fun h => by cases h) (fun hh => by rcases hh with ⟨_, _, _, hh⟩ | ⟨_, _, _, hh⟩ <;> rw [hop] at hh <;> cases hh) (xs := []) e' (fun V γ a hT q hq => by simp at hq)
        fun h1' fl _ _ => .of (allocA_ok _ hz ho h1 h0)
    | true =>
      rw [hpv] at e
      obtain ⟨hgd, e1⟩ := noG_f (ol := ol) e
      have fin : ∀ (c : X), CtR ⟨fun _ => False, fun _ => 0, fun _ => 0, fun _ => 0⟩ c zs.toArray → (∀ V, CtR V c zs.toArray) → (newV cx ol en t (.con c) ih).f fr l h k = some r → Out P cx ops o ol en fr l h ih k r := fun c _ hct e2 => by
        obtain ⟨en', e3, b1, b2, b3⟩ := newV_some (fr := fr) e2 hw hpv trivial
        refine ⟨en', l, h, .new t, .ptr t 0 true, _, e3, b1, by rw [ht]; exact b2, .refl _ _, ⟨by rw [hop]; rfl, ht, hpv⟩, (fun q off c e hne => by cases e; exact .inl rfl), fun hfa => ⟨rfl, rfl, fun k off c hk hs => hk (staT_ptr hs b3), _, rfl, fun V γ w a hT => ?_⟩⟩
        refine gw_run hL hw hT (by rw [hgd]; rfl) (opw_new (run_alloc hz ho) ⟨rfl, zs.toArray, el, (setAt_alloc _ _).1, (setAt_alloc _ _).2, ?_⟩)
        rw [show vD en fr l (.con c) = c from acD_con _ _ _ _]
        exact hct V
      cases hz1 : Nat.beq zs.length 1 with
      | true =>
        rw [hz1] at e1
        obtain ⟨v, hv, e2⟩ := oR_some (a := zs.head?) e1
        have e3 : (sealX (encV v) frN fun z => newV cx ol en t (.con z) ih).f fr l h k = some r := e2
        rw [sealX_run] at e3
        have hzs : zs = [v] := by
          match zs, hv, beqT hz1 with
          | [u], hv, _ => simp at hv; subst hv; rfl
        have ho1 : one v := all_one h1 v (by rw [hzs]; simp)
        have hct : ∀ V, CtR V (encV v) zs.toArray := fun V => by
          rw [hzs]
          refine ⟨fun hn => ?_, v, encV_den ho1, one_cells ho1, by simpa using ho1⟩
          have := (den14 (V := V) (x := encV v) (by rw [hn])).1 (encV_den ho1)
          rw [this] at ho1
          cases ho1
        exact fin _ (hct _) hct e3
      | false =>
        rw [hz1] at e1
        have hct : ∀ V, CtR V ⟨32 * zs.length + 2, zsOf zs, oZ⟩ zs.toArray := fun V => .mkA (by simpa using (zsOf_den h1).1) (by simpa using (zsOf_den (V := V) h1).2) (by simp)
        exact fin _ (hct _) hct e1
theorem cBox_out (hL : Lnk P cx ops o ol) (hw : Wf cx en l) (hfn : h.fl ≤ h.n) {el : TypeId} {x : Operand} (ho : o.op = .box el x) (hop : ol.op = .box x)
    (e : (cBox x cx ol en ih).f fr l h k = some r) : Out P cx ops o ol en fr l h ih k r := by
  have hlk : ∀ j ∈ tmpOf x, j ∈ looksL ol := tmp_look (by rw [hop]; simp [opndsOf])
  unfold cBox at e
  cases ht : ol.dst with
  | none => rw [ht] at e; cases e
  | some t =>
    rw [ht] at e
    dsimp only at e
    cases hpv : mem cx.PV t with
    | false =>
      rw [hpv] at e
      exact p1_heap false hL hw (fun t' ht' => by rw [ht] at ht'; cases ht'; exact hpv) hfn (by rw [hop]; show (2 : Nat) ≠ 0; omega) (fun h => by cases h) (fun hh => by rcases hh with ⟨_, _, _, hh⟩ | ⟨_, _, _, hh⟩ <;> rw [hop] at hh <;> cases hh) e hlk
        fun y h1 fl _ => xBox_ok ho
    | true =>
      rw [hpv] at e
      obtain ⟨hgd, e1⟩ := noG_f (ol := ol) e
      obtain ⟨b, hb, e2⟩ := oR_some (a := acOf cx en x) e1
      have e3 : xOne (b.g fr l) h (fun y h => (newV cx ol ⟨en.T, en.A, en.C, Nat.succ en.n⟩ t (.loc en.n) ih).f fr (y :: l) h k) = some r := e2
      unfold xOne at e3
      rw [opn_eq] at e3
      have hy : (⟨(b.g fr l).n, (b.g fr l).l, (b.g fr l).o⟩ : X) = b.g fr l := by cases b.g fr l; rfl
      rcases cndR_some e3 with ⟨_, e4⟩ | ⟨t3, e4⟩
      · cases e4
      · rcases cndR_some e4 with ⟨_, e5⟩ | ⟨t14, e5⟩
        · cases e5
        · rw [hy] at e5
          have hw2 : Wf cx ⟨en.T, en.A, en.C, Nat.succ en.n⟩ (b.g fr l :: l) := ⟨by show en.n + 1 = _; rw [hw.n]; rfl, fun k d h => ⟨(hw.T k d h).1.mono (Nat.le_succ _), (hw.T k d h).2⟩, fun k d h => ⟨(hw.C k d h).1.mono (Nat.le_succ _), (hw.C k d h).2⟩, hw.A, hw.nd⟩
          have hS : Stb cx fr en l ⟨en.T, en.A, en.C, Nat.succ en.n⟩ (b.g fr l :: l) none none := ⟨fun k _ => rfl, fun k a _ h => ⟨h, fun j hj => by cases hj⟩, fun q _ => rfl, fun d hd => acD_push fr _ l hd⟩
          have hle : (sta cx ⟨en.T, en.A, en.C, Nat.succ en.n⟩ fr (b.g fr l :: l)).le (sta cx en fr l) := ⟨fun k v hk => hS.staT hw hw2 (fun q x hq => by cases hq) k (by simp) v hk, fun p x hp => by
            have := hS.staC hw p (by simp)
            exact this.symm.trans hp⟩
          obtain ⟨en', e6, b1, b2, b3⟩ := newV_some (fr := fr) e5 hw2 hpv (Nat.lt_succ_self _)
          rw [show vD ⟨en.T, en.A, en.C, Nat.succ en.n⟩ fr (b.g fr l :: l) (.loc en.n) = b.g fr l from acD_new _ _ _ _] at b2
          refine ⟨en', _, h, .new t, .ptr t 0 true, _, e6, b1, by rw [ht]; exact b2.trans (Sta.upd_mono hle _ _ _), .refl _ _, ⟨by rw [hop]; rfl, ht, hpv⟩, (fun q off c e hne => by cases e; exact .inl rfl), fun hfa => ⟨rfl, rfl, fun k off c hk hs => hk (staT_ptr hs b3), _, rfl, fun V γ w a hT => ?_⟩⟩
          have hdx := acOf_den hw hT hlk hb
          have hrun : (execOp a.eval o).run P w = .ok (.value (.pointer (some ⟨w.heap.size, 0, none⟩))) (w.alloc (.cells (a.eval x).cells el)) := by
            simp [execOp, ho, Instr.box, newVar, newRow]
          exact gw_run hL hw hT (by rw [hgd]; rfl) (opw_new hrun ⟨rfl, (a.eval x).cells, el, (setAt_alloc _ _).1, (setAt_alloc _ _).2, .of hdx (land31' t3) (land31' t14)⟩)
end
end
end Go.M
set_option maxHeartbeats 1000000
namespace Go.M
open Go
open Go.Eng (SOp SOper SCode)
noncomputable section
variable [Ctxt]
section
variable {P : Program} {h : Hp}
theorem xEql_sem {x y : X} {k : Kx} {r} (e : xEql x y h k = some r) : ∃ c h', k c h' = some r ∧ (∀ fl, HLe fl h h') ∧ (∀ {M : Rel} {w0 V w}, M.R w0 V h w → M.R w0 V h' w) ∧ ((∀ p ∈ h'.fa, p) → ∀ V u v, den V x u → den V y v → ∃ b, sbin .eql u v = some (.bool b) ∧ den V c (.bool b)) := by
  have eqb : ∀ {u v z : Value}, sbin .eql u v = some z → ∃ b, z = .bool b := fun {u v z} hz => by
    cases u <;> cases v <;> first
      | (cases hz; done)
      | (rename_i k a k' b
         have hz' : (if k = k' then some (Value.bool (a == b)) else none) = some z := hz
         split at hz'
         · exact ⟨_, (Option.some.inj hz').symm⟩
         · cases hz')
      | exact ⟨_, (Option.some.inj hz).symm⟩
  have gen : xBinG .eql x y h k = some r → ∃ c h', k c h' = some r ∧ (∀ fl, HLe fl h h') ∧ (∀ {M : Rel} {w0 V w}, M.R w0 V h w → M.R w0 V h' w) ∧ ((∀ p ∈ h'.fa, p) → ∀ V u v, den V x u → den V y v → ∃ b, sbin .eql u v = some (.bool b) ∧ den V c (.bool b)) := fun e => by
    have orc : orcK (OpFact .eql x y) h k = some r → ∃ c h', k c h' = some r ∧ (∀ fl, HLe fl h h') ∧ (∀ {M : Rel} {w0 V w}, M.R w0 V h w → M.R w0 V h' w) ∧ ((∀ p ∈ h'.fa, p) → ∀ V u v, den V x u → den V y v → ∃ b, sbin .eql u v = some (.bool b) ∧ den V c (.bool b)) := fun e => by
      obtain ⟨c, q, e1⟩ := orcK_spec e
      refine ⟨c, _, e1, fun fl => .orc, fun {M w0 V w} hm => M.orc hm, fun hf V u v hu hv => ?_⟩
      obtain ⟨u', v', z, h1, h2, h3, h4, h5⟩ : OpFact .eql x y c := hf _ (List.mem_cons_self ..)
      have := dvX_den h1 hu; subst this
      have := dvX_den h2 hv; subst this
      obtain ⟨b, rfl⟩ := eqb h5
      exact ⟨b, h5, den_dvX h3 h4⟩
    rcases cndR_some e with ⟨_, e1⟩ | ⟨_, e1⟩
    · exact orc e1
    · rcases cndR_some e1 with ⟨_, e2⟩ | ⟨_, e2⟩
      · exact orc e2
      · obtain ⟨u, hu, e3⟩ := dvK_some e2
        obtain ⟨v, hv, e4⟩ := dvK_some e3
        cases hs : sbin .eql u v with
        | none => rw [hs] at e4; cases e4
        | some z =>
          rw [hs] at e4
          have e5 : sealV z (fun x => k x h) = some r := e4
          rw [sealV_eq] at e5
          obtain ⟨b, rfl⟩ := eqb hs
          refine ⟨_, h, e5, fun fl => .refl _ _, fun hm => hm, fun _ V u' v' hu' hv' => ?_⟩
          have := dvX_den hu hu'; subst this
          have := dvX_den hv hv'; subst this
          exact ⟨b, hs, encV_den rfl⟩
  rcases cndR_some e with ⟨t, e1⟩ | ⟨_, e1⟩
  · obtain ⟨c, e2, hc⟩ := kB_some e1
    refine ⟨c, h, e2, fun fl => .refl _ _, fun hm => hm, fun _ V u v hu hv => ?_⟩
    obtain ⟨ta, tb⟩ := two0_ok t
    have hu := (den0 ta).1 hu
    have hv := (den0 tb).1 hv
    subst hu; subst hv
    refine ⟨_, ?_, hc V⟩
    show (if IntKind.i64 = IntKind.i64 then some (Value.bool (Int.ofNat (x.n / 32) == Int.ofNat (y.n / 32))) else none) = _
    rw [if_pos rfl]
    congr 2
    rw [beq_dec]
    by_cases hxy : x.n = y.n
    · simp [hxy]
    · have : x.n / 32 ≠ y.n / 32 := by omega
      simp [hxy]; omega
  · exact gen e1
theorem kindB_int {x : X} {V : Vw} {u : Value} (h : kindB 0 x = true) (hd : den V x u) : ∃ q n, u = .int q n := by
  unfold kindB at h
  rw [cnd_if] at h
  split at h
  · rename_i ht
    have ht : x.n % 32 = 12 ∨ x.n % 32 = 13 := by
      have h30 : Nat.land x.n 30 = 12 := beqT ht
      have e : Nat.land x.n 30 = x.n % 32 / 2 * 2 := by
        have : Nat.land x.n 30 = x.n &&& 30 := rfl
        rw [this]
        have h1 : x.n &&& 30 = (x.n % 32) &&& 30 := by
          rw [show (x.n % 32) = x.n &&& 31 from (Nat.and_two_pow_sub_one_eq_mod x.n 5).symm, Nat.and_assoc]; rfl
        rw [h1]
        have : ∀ m, m < 32 → m &&& 30 = m / 2 * 2 := by decide
        exact this _ (Nat.mod_lt _ (by decide))
      omega
    have hd := (den12 ht).1 hd
    split at h
    · rename_i heq; exact ⟨_, _, hd.1.trans heq⟩
    · rename_i h01 _; cases h01
    · cases h
  · simp only [Nat.beq_refl, cnd_if] at h
    split at h
    · rename_i h0; exact ⟨_, _, (den0 (tagT h0)).1 hd⟩
    · split at h
      · rename_i h4; exact ⟨_, _, (den4 (tagT h4)).1 hd⟩
      · have h' : Nat.beq (Nat.land x.n 31) 5 = true := h
        exact ⟨_, _, (den5 (tagT h')).1 hd⟩
theorem kindB_str {x : X} {V : Vw} {u : Value} (h : kindB 1 x = true) (hd : den V x u) : ∃ s, u = .string s := by
  unfold kindB at h
  rw [cnd_if] at h
  split at h
  · rename_i ht
    have ht : x.n % 32 = 12 ∨ x.n % 32 = 13 := by
      have h30 : Nat.land x.n 30 = 12 := beqT ht
      have e : Nat.land x.n 30 = x.n % 32 / 2 * 2 := by
        have : Nat.land x.n 30 = x.n &&& 30 := rfl
        rw [this]
        have h1 : x.n &&& 30 = (x.n % 32) &&& 30 := by
          rw [show (x.n % 32) = x.n &&& 31 from (Nat.and_two_pow_sub_one_eq_mod x.n 5).symm, Nat.and_assoc]; rfl
        rw [h1]
        have : ∀ m, m < 32 → m &&& 30 = m / 2 * 2 := by decide
        exact this _ (Nat.mod_lt _ (by decide))
      omega
    have hd := (den12 ht).1 hd
    split at h
    · rename_i heq _; cases heq
    · rename_i heq; exact ⟨_, hd.1.trans heq⟩
    · cases h
  · have : (Nat.beq 1 0) = false := rfl
    rw [this] at h; cases h
theorem eqL_some : ∀ (ks : List Nat) {l m : List X} {h : Hp} {kk : Bool → Hp → R} {r}, eqL ks l m h kk = some r → ∃ b h', kk b h' = some r ∧ (∀ fl, HLe fl h h') ∧ (∀ {M : Rel} {w0 V w}, M.R w0 V h w → M.R w0 V h' w) ∧
    ((∀ p ∈ h'.fa, p) → ∀ V (us vs : List Value) (w : World), denL V l us → denL V m vs → Go.Eng.EqC P w ks us vs b)
  | [], l, m, h, kk, r, e => by
    cases l with
    | cons x l => cases e
    | nil =>
      cases m with
      | cons y m => cases e
      | nil =>
        refine ⟨true, h, e, fun fl => .refl _ _, fun hm => hm, fun _ V us vs w h1 h2 => ?_⟩
        have h1 := denL_nil.1 h1
        have h2 := denL_nil.1 h2
        subst h1; subst h2
        rfl
  | q :: ks, l, m, h, kk, r, e => by
    cases l with
    | nil => cases e
    | cons x l =>
      cases m with
      | nil => cases e
      | cons y m =>
        have fin : ∀ {c : X} {h1 : Hp}, (eqL ks l m h1 fun r' h => cndR (Nat.beq c.n 33) (kk r' h) (cndR (Nat.beq c.n 1) (kk false h) none)) = some r → (∀ fl, HLe fl h h1) → (∀ {M : Rel} {w0 V w}, M.R w0 V h w → M.R w0 V h1 w) →
            ((∀ p ∈ h1.fa, p) → ∀ V u v, den V x u → den V y v → ∃ b, den V c (.bool b) ∧ ∀ (w : World) (d : Nat) (ty : TypeId), ((q = 0 ∧ ∃ k, P.underlying ty = some (.int k)) ∨ (q = 1 ∧ P.underlying ty = some .string) ∨ (q = 2 ∧ P.underlying ty = some .bool)) → (Op.equalIn (d + 1) ty u v).run P w = .ok b w) →
            ∃ b h', kk b h' = some r ∧ (∀ fl, HLe fl h h') ∧ (∀ {M : Rel} {w0 V w}, M.R w0 V h w → M.R w0 V h' w) ∧
    ((∀ p ∈ h'.fa, p) → ∀ V (us vs : List Value) (w : World), denL V (x :: l) us → denL V (y :: m) vs → Go.Eng.EqC P w (q :: ks) us vs b) := by
          intro c h1 e1 hle hM hsem
          obtain ⟨r', h2, e2, g1, g2, g3⟩ := eqL_some ks e1
          have step : ∀ (b : Bool), ((∀ p ∈ h2.fa, p) → ∀ V u v, den V x u → den V y v → ∀ b', den V c (.bool b') → b = (b' && r')) → kk b h2 = some r → ∃ b h', kk b h' = some r ∧ (∀ fl, HLe fl h h') ∧ (∀ {M : Rel} {w0 V w}, M.R w0 V h w → M.R w0 V h' w) ∧
    ((∀ p ∈ h'.fa, p) → ∀ V (us vs : List Value) (w : World), denL V (x :: l) us → denL V (y :: m) vs → Go.Eng.EqC P w (q :: ks) us vs b) := by
            intro b hb e3
            refine ⟨b, h2, e3, fun fl => (hle fl).trans (g1 fl), fun hm => g2 (hM hm), fun hf V us vs w hu hv => ?_⟩
            obtain ⟨u, us', rfl, hu1, hu2⟩ := denL_cons.1 hu
            obtain ⟨v, vs', rfl, hv1, hv2⟩ := denL_cons.1 hv
            obtain ⟨b', hb1, hb2⟩ := hsem (fun p hp => hf p ((g1 0).fa p hp)) V u v hu1 hv1
            have hbb := hb hf V u v hu1 hv1 b' hb1
            subst hbb
            exact ⟨b', r', rfl, fun d ty hk => hb2 w d ty hk, g3 hf V us' vs' w hu2 hv2⟩
          rcases cndR_some e2 with ⟨t33, e3⟩ | ⟨_, e3⟩
          · refine step r' (fun _ V u v _ _ b' hb' => ?_) e3
            have := den_boolT (beqT t33) hb'
            simp only [Value.bool.injEq] at this
            subst this; rfl
          · obtain ⟨t1, e4⟩ := cndR_t e3
            refine step false (fun _ V u v _ _ b' hb' => ?_) e4
            have := den_boolF (beqT t1) hb'
            simp only [Value.bool.injEq] at this
            subst this; rfl
        have e' : cndR (Nat.beq q 2) (xEqb false x y h fun c h => eqL ks l m h fun r' h => cndR (Nat.beq c.n 33) (kk r' h) (cndR (Nat.beq c.n 1) (kk false h) none))
          (cndR (kindB q x) (cndR (kindB q y) (xEql x y h fun c h => eqL ks l m h fun r' h => cndR (Nat.beq c.n 33) (kk r' h) (cndR (Nat.beq c.n 1) (kk false h) none)) none) none) = some r := e
        rcases cndR_some e' with ⟨t2, e1⟩ | ⟨t2, e1⟩
        · obtain ⟨a, b, t1, t3, ha, hb, c, e2, hc⟩ := xEqb_run e1
          refine fin e2 (fun fl => .refl _ _) (fun hm => hm) fun _ V u v hu hv => ⟨a == b, by simpa using hc V, fun w d ty hq => ?_⟩
          have hu := (den1 t1).1 hu
          have hv := (den1 t3).1 hv
          rw [← ha] at hu; rw [← hb] at hv
          subst hu; subst hv
          have h2 := beqT t2
          rcases hq with ⟨h0, _⟩ | ⟨h0, _⟩ | ⟨_, hty⟩
          · omega
          · omega
          · exact run_equalIn_bool' w d ty a b hty
        · obtain ⟨k1, e2⟩ := cndR_t e1
          obtain ⟨k2, e3⟩ := cndR_t e2
          obtain ⟨c, h1, e4, g1, g2, g3⟩ := xEql_sem e3
          refine fin e4 g1 g2 fun hf V u v hu hv => ?_
          obtain ⟨b, hb1, hb2⟩ := g3 hf V u v hu hv
          refine ⟨b, hb2, fun w d ty hq => ?_⟩
          rcases hq with ⟨rfl, k, hty⟩ | ⟨rfl, hty⟩ | ⟨rfl, _⟩
          · obtain ⟨qa, na, rfl⟩ := kindB_int k1 hu
            obtain ⟨qb, nb, rfl⟩ := kindB_int k2 hv
            have hb' : (if qa = qb then some (Value.bool (na == nb)) else none) = some (.bool b) := hb1
            split at hb'
            · rename_i hqq
              subst hqq
              simp only [Option.some.injEq, Value.bool.injEq] at hb'
              rw [run_equalIn_int w d ty qa k na nb hty, hb']
            · cases hb'
          · obtain ⟨sa, rfl⟩ := kindB_str k1 hu
            obtain ⟨sb, rfl⟩ := kindB_str k2 hv
            have hb' : some (Value.bool (sa.data.toList == sb.data.toList)) = some (.bool b) := hb1
            simp only [Option.some.injEq, Value.bool.injEq] at hb'
            rw [run_equalIn_string w d ty sa sb hty, ← hb', ByteArray.toList_eq, ByteArray.toList_eq]
          · cases t2
theorem xEqs_ok {o : Oper} {neg : Bool} {ty ty' : TypeId} {fs : Array Field} {ks : List Nat} {a b : Operand} {x y : X} (h1 : P.underlying ty = some (.struct fs)) (hk : Go.Eng.kinds2 P fs.toList 0 = some ks)
    (hs : P.stoodInHeld ty = false) (hg : P.eqGuardType P.depth ty = false) (ho : o.op = .binOp (if neg then .neq else .eql) ty a b ty') : CoreP P o [(a, x), (b, y)] h (xEqs neg ks x y) := fun k r e => by
  unfold xEqs at e
  rw [opn_eq, opn_eq] at e
  obtain ⟨t1, e1⟩ := cndR_t e
  obtain ⟨t2, e2⟩ := cndR_t e1
  obtain ⟨c, h', e3, g1, g2, g3⟩ := eqL_some (P := P) ks e2
  have e4 : kB (if neg then !c else c) h' k = some r := by
    cases neg <;> cases c <;> exact e3
  obtain ⟨z, e5, hz⟩ := kB_some e4
  refine ⟨z, h', e5, g1, fun hf M fl w0 V w ev hm hd _ => ?_⟩
  obtain ⟨us, hu, _, hlu, _⟩ := (den2 (tagT t1)).1 (hd (a, x) (by simp))
  obtain ⟨vs, hv, _, hlv, _⟩ := (den2 (tagT t2)).1 (hd (b, y) (by simp))
  have hu : ev a = .agg us.toArray := hu
  have hv : ev b = .agg vs.toArray := hv
  have hfo : P.fieldsOf ty = fs := by unfold Program.fieldsOf; rw [h1]
  have hrun := Go.Eng.eqC_nest (d := 9997) (xs := us.toArray) (ys := vs.toArray) hk (g3 hf V us vs w hlu hlv) (fun j v hj => by simpa using hj) (fun j v hj => by simpa using hj)
  have heq : (Op.equalIn 10000 ty (.agg us.toArray) (.agg vs.toArray)).run P w = .ok c w := by
    rw [run_equalIn_struct w 9999 ty us.toArray vs.toArray (by rw [hfo]; exact h1) hs, hfo]
    exact hrun
  have hz := hz V
  have hstp : Stp fl V h w V w := .refl ..
  cases neg
  · simp only [Bool.false_eq_true, if_false] at ho hz
    simp only [execOp, ho, hu, hv, Sem.run_bind, run_eqGuard_agg w _ ty a b us.toArray vs.toArray hg, Result.andThen_ok, run_eql_struct, heq, Sem.run_pure]
    exact ⟨_, w, V, .inl rfl, g2 hm, hz, hstp⟩
  · simp only [if_true] at ho hz
    simp only [execOp, ho, hu, hv, Sem.run_bind, run_eqGuard_agg w _ ty a b us.toArray vs.toArray hg, Result.andThen_ok, run_neq_struct, heq, Sem.run_pure]
    exact ⟨_, w, V, .inl rfl, g2 hm, hz, hstp⟩
end
end
end Go.M
set_option maxHeartbeats 1000000
namespace Go.M
open Go
open Go.Eng (SOp SOper SCode)
noncomputable section
variable [Ctxt]
def Enters (P : Program) (f : FuncId) : Prop := ∃ fn, P.funcs[f]? = some fn ∧ (fn.name == "runtime.NumGoroutine") = false ∧ fn.body.isNone = false
def FcOk (P : Program) (g : FuncId) (fc : FC) : Prop := ∀ xs h k r, h.fl ≤ h.n → fc.f xs h k = some r → ∃ x h', k x h' = some r ∧ HLe h.fl h h' ∧ ((∀ p ∈ h'.fa, p) → ∀ w0 V w (vals : Array Value), MR w0 V h w → denL V xs vals.toList →
  Enters P g ∧ Calls P g vals w fun e w' => ∃ v V', e = .returned v ∧ MR w0 V' h' w' ∧ den V' x v ∧ Stp h.fl V h w V' w')
def CallsOk (P : Program) (cl : Nat → FC) : Prop := ∀ g, FcOk P g (cl g)
section
variable {P : Program} {cx : Cx} {ops : Array Oper} {o : Oper} {ol : OL} {en : En} {fr : FX} {l : Loc} {h : Hp} {k : Kc} {r : List Prop} {ih : En → FR}
theorem strip_call {f : Operand} {args : List Operand} (hs : Go.Eng.strip P o = some (.call f args)) : ∃ c, o.op = .call c ∧ c.callee = .value f ∧ c.args.toList = args := by
  unfold Go.Eng.strip at hs
  repeat' split at hs
  all_goals first
    | (rename_i c hop _ _ hc; cases hs; exact ⟨c, hop, hc, rfl⟩)
    | (rename_i c hop _ hc; cases hs; exact ⟨c, hop, hc, rfl⟩)
    | (cases hs; done)
    | skip
theorem execCall {a : Act} {w : World} {c : Call} {f : Operand} {g : FuncId} {vs : Array Value} (hc : c.callee = .value f) (hf : a.eval f = .func (.func g) #[] vs) (ho : o.op = .call c) (hE : Enters P g) :
    (execOp a.eval o).run P w = .ok (.enter g (c.args.map a.eval ++ vs)) w := by
  obtain ⟨fn, h1, h2, h3⟩ := hE
  simp only [execOp, ho, resolve, hc, Deferred.ofValue, hf, Sem.run_bind, Sem.run_pure, Result.andThen_ok, invoke, callFunc, run_program, h1, h2, h3, Bool.false_eq_true, if_false, Array.empty_append]
theorem execCallM {a : Act} {w : World} {c : Call} {f : Operand} {g : FuncId} {vs : Array Value} (hc : c.callee = .value f) (hf : a.eval f = .func (.func g) vs #[]) (ho : o.op = .call c) (hE : Enters P g) :
    (execOp a.eval o).run P w = .ok (.enter g (vs ++ c.args.map a.eval)) w := by
  obtain ⟨fn, h1, h2, h3⟩ := hE
  simp only [execOp, ho, resolve, hc, Deferred.ofValue, hf, Sem.run_bind, Sem.run_pure, Result.andThen_ok, invoke, callFunc, run_program, h1, h2, h3, Bool.false_eq_true, if_false, Array.append_empty]
theorem lenA_den {V : Vw} {s : Ac} {u : Value} {ad : Option Addr} {n cap : Nat} (ht : (s.g fr l).n = 6 ∨ (s.g fr l).n % 32 = 8) (hd : den V (s.g fr l) u) (hu : u = .slice ad n cap) : ((lenA s).g fr l).n % 32 = 0 ∧ ((lenA s).g fr l).n / 32 = n := by
  have e : ((lenA s).g fr l).n = 32 * (cnd (Nat.beq (Nat.land (s.g fr l).n 31) 8) (Nat.land (Nat.shiftRight (s.g fr l).n 6) 1048575) 0) := rfl
  rw [e]
  refine ⟨by omega, ?_⟩
  rw [Nat.mul_div_cancel_left _ (by decide)]
  rcases ht with ht | ht
  · have := (den6 (by rw [ht])).1 hd
    rw [hu] at this
    cases this
    rw [ht]; rfl
  · obtain ⟨_, cap', h2, _⟩ := (den8 ht).1 hd
    rw [hu] at h2
    cases h2
    rw [land31, ht]
    show Nat.land (Nat.shiftRight (s.g fr l).n 6) 1048575 = _
    rw [landM, shr]
theorem xSlice_tag {sz : Nat} {s lo hi : X} {kk : Kx} {r} (e : xSlice sz s lo hi h kk = some r) : s.n = 6 ∨ s.n % 32 = 8 := by
  obtain ⟨h1, e1⟩ := bndK_some (show bndK lo _ = some r from e)
  obtain ⟨h2, e2⟩ := bndK_some e1
  obtain ⟨_, e3⟩ := cndR_t e2
  rcases cndR_some e3 with ⟨t, _⟩ | ⟨_, e4⟩
  · exact .inl (beqT t)
  · obtain ⟨t, _⟩ := cndR_t e4
    exact .inr (tagT t)
def BA (cx : Cx) (en : En) (d : Option Ac) (x : Option Operand) : Option Ac := @Option.rec Operand (fun _ => Option Ac) d (fun y => acOf cx en y) x
theorem BA_bnd (hw : Wf cx en l) {V : Vw} {γ : Nat → Nat} {a : Act} (hT : TOk (sta cx en fr l) V γ a (looksL ol)) {d : Option Ac} {x : Option Operand} {b : Ac} (hb : BA cx en d x = some b) (hlk : ∀ y, x = some y → ∀ j ∈ tmpOf y, j ∈ looksL ol) {n : Nat} (h0 : x = none → (b.g fr l).n / 32 = n) (ht : (b.g fr l).n % 32 = 0) :
    BndR n x a.eval ((b.g fr l).n / 32) := by
  cases x with
  | none => exact .inl ⟨rfl, h0 rfl⟩
  | some y => exact .inr ⟨y, rfl, (den0 ht).1 (acOf_den hw hT (hlk y rfl) hb)⟩
theorem cSlice_out (hL : Lnk P cx ops o ol) (hw : Wf cx en l) (hfn : h.fl ≤ h.n) {sz : Nat} {ty el : TypeId} {x : Operand} {lo hi mx : Option Operand} (hu : P.underlying ty = some (.slice el)) (hs : Go.Eng.sizeP P el = some sz) (ho : o.op = .slice ty x lo hi mx) (hop : ol.op = .slice sz x lo hi mx)
    (hd : ∀ t, ol.dst = some t → mem cx.PV t = false) (e : (cSlice sz x lo hi mx cx ol en ih).f fr l h k = some r) : Out P cx ops o ol en fr l h ih k r := by
  have hlk : ∀ y ∈ opndsOf ol.op, ∀ j ∈ tmpOf y, j ∈ looksL ol := fun y hy => tmp_look hy
  have hx : ∀ j ∈ tmpOf x, j ∈ looksL ol := hlk x (by rw [hop]; simp [opndsOf])
  have hlo : ∀ y, lo = some y → ∀ j ∈ tmpOf y, j ∈ looksL ol := fun y hy => hlk y (by rw [hop, hy]; simp [opndsOf])
  have hhi : ∀ y, hi = some y → ∀ j ∈ tmpOf y, j ∈ looksL ol := fun y hy => hlk y (by rw [hop, hy]; simp [opndsOf])
  have hmx : ∀ y, mx = some y → ∀ j ∈ tmpOf y, j ∈ looksL ol := fun y hy => hlk y (by rw [hop, hy]; simp [opndsOf])
  have hc0 : cls0 ol.op ≠ 0 := by rw [hop]; show (1 : Nat) ≠ 0; omega
  have hvp : (∃ ag sz x, ol.op = .load ag sz x) ∨ (∃ sz x y, ol.op = .store sz x y) → ∀ v, ol.vp = some v → v = none := fun hh => by rcases hh with ⟨_, _, _, hh⟩ | ⟨_, _, _, hh⟩ <;> rw [hop] at hh <;> cases hh
  unfold cSlice at e
  obtain ⟨a, ha, e1⟩ := oR_some (a := acOf cx en x) e
  obtain ⟨b, hb, e2⟩ := oR_some (a := BA cx en (some (accC (mk0 0))) lo) e1
  have hb0 : lo = none → (b.g fr l).n / 32 = 0 := fun hn => by
    subst hn
    have : some (accC (mk0 0)) = some b := hb
    cases this
    show ((acD 0 (.con (mk0 0))).g fr l).n / 32 = 0
    rw [acD_con]
    rfl
  have hbt : ∀ {V γ a'}, TOk (sta cx en fr l) V γ a' (looksL ol) → (b.g fr l).n % 32 = 0 → BndR 0 lo a'.eval ((b.g fr l).n / 32) := fun hT ht => BA_bnd hw hT hb hlo hb0 ht
  cases mx with
  | none =>
    have e2' : (oR (BA cx en (some (lenA a)) hi) fun c => gen cx ol en ih ⟨fun fr l h k => xSlice sz (a.g fr l) (b.g fr l) (c.g fr l) h k⟩).f fr l h k = some r := e2
    obtain ⟨c, hc, e3⟩ := oR_some e2'
    obtain ⟨y, h', g1, g2⟩ := gen_run (Pr := fun y h2 => h2 = (if ol.flo then unfl h.n h else h) ∧ ((a.g fr l).n = 6 ∨ (a.g fr l).n % 32 = 8) ∧ (b.g fr l).n % 32 = 0 ∧ (c.g fr l).n % 32 = 0 ∧ (b.g fr l).n / 32 ≤ (c.g fr l).n / 32 ∧
      ∀ w0 V w u, MR w0 V (if ol.flo then unfl h.n h else h) w → den V (a.g fr l) u → ∃ ad len cap, u = .slice ad len cap ∧ (c.g fr l).n / 32 ≤ cap ∧
        den V y (.slice (if cap = (b.g fr l).n / 32 then ad else ad.map (·.add ((b.g fr l).n / 32 * sz))) ((c.g fr l).n / 32 - (b.g fr l).n / 32) (cap - (b.g fr l).n / 32))) e3 fun kk ek => by
      have ek' : xSlice sz (a.g fr l) (b.g fr l) (c.g fr l) (if ol.flo then unfl h.n h else h) kk = some r := ek
      obtain ⟨q1, q2, q3, y, q4, q5⟩ := xSlice_run ek'
      exact ⟨y, _, q4, rfl, xSlice_tag ek', q1, q2, q3, q5⟩
    obtain ⟨b1, b2⟩ := bnd_ok (fr := fr) (ol := ol) hw hd y
    have hh : h' = h := by
      rcases g2 with ⟨h2, ⟨h3, _⟩, h4, _⟩ | ⟨_, h4, _⟩
      · subst h3; subst h4; split <;> rfl
      · exact h4
    subst hh
    refine ⟨_, _, h', .heap h'.n, .val y, none, g1, b1, b2, .refl _ _, ⟨hc0, hvp, .inl rfl, fun _ => hd⟩, (fun p off c e => by cases e), fun hfa => ⟨rfl, y, rfl, fun w0 V γ w a' hm hT => ?_⟩⟩
    rcases g2 with ⟨h2, ⟨h3, h6, h7, h8, h9, h10⟩, h4, h5⟩ | ⟨rfl, h4, h5⟩
    · have hm' : MR w0 V (if ol.flo then unfl h'.n h' else h') w := by
        split
        · exact hm.unfl _
        · exact hm
      obtain ⟨ad, len, cap, q1, q2, q3⟩ := h10 w0 V w _ hm' (acOf_den hw hT hx ha)
      have hr : BndR len hi a'.eval ((c.g fr l).n / 32) := BA_bnd hw hT hc hhi (fun hn => by
        subst hn
        have : some (lenA a) = some c := hc
        cases this
        exact (lenA_den h6 (acOf_den hw hT hx ha) q1).2) h8
      exact gw_run hL hw hT h5 (opw_val (run_slice hu hs ho q1 (hbt hT h7) hr h9 q2) ⟨V, hm, q3, .refl ..⟩)
    · exact gw_skip hL hw hT h5 ⟨V, hm, den_xU, .refl ..⟩
  | some mx =>
    have e2' : (oR hi fun hi => oR (acOf cx en hi) fun c => oR (acOf cx en mx) fun d => gen cx ol en ih ⟨fun fr l h k => xSlice3 sz (a.g fr l) (b.g fr l) (c.g fr l) (d.g fr l) h k⟩).f fr l h k = some r := e2
    obtain ⟨hi', hhi', e3⟩ := oR_some e2'
    subst hhi'
    obtain ⟨c, hc, e4⟩ := oR_some e3
    obtain ⟨d, hdd, e5⟩ := oR_some e4
    obtain ⟨y, h', g1, g2⟩ := gen_run (Pr := fun y h2 => h2 = (if ol.flo then unfl h.n h else h) ∧ (b.g fr l).n % 32 = 0 ∧ (c.g fr l).n % 32 = 0 ∧ (d.g fr l).n % 32 = 0 ∧ (b.g fr l).n / 32 ≤ (c.g fr l).n / 32 ∧ (c.g fr l).n / 32 ≤ (d.g fr l).n / 32 ∧
      ∀ V u, den V (a.g fr l) u → ∃ ad len cap, u = .slice ad len cap ∧ (d.g fr l).n / 32 ≤ cap ∧
        den V y (.slice (if (d.g fr l).n / 32 = (b.g fr l).n / 32 then ad else ad.map (·.add ((b.g fr l).n / 32 * sz))) ((c.g fr l).n / 32 - (b.g fr l).n / 32) ((d.g fr l).n / 32 - (b.g fr l).n / 32))) e5 fun kk ek => by
      have ek' : xSlice3 sz (a.g fr l) (b.g fr l) (c.g fr l) (d.g fr l) (if ol.flo then unfl h.n h else h) kk = some r := ek
      obtain ⟨q1, q2, q3, q4, q5, y, q6, q7⟩ := xSlice3_run ek'
      exact ⟨y, _, q6, rfl, q1, q2, q3, q4, q5, q7⟩
    obtain ⟨b1, b2⟩ := bnd_ok (fr := fr) (ol := ol) hw hd y
    have hh : h' = h := by
      rcases g2 with ⟨h2, ⟨h3, _⟩, h4, _⟩ | ⟨_, h4, _⟩
      · subst h3; subst h4; split <;> rfl
      · exact h4
    subst hh
    refine ⟨_, _, h', .heap h'.n, .val y, none, g1, b1, b2, .refl _ _, ⟨hc0, hvp, .inl rfl, fun _ => hd⟩, (fun p off c e => by cases e), fun hfa => ⟨rfl, y, rfl, fun w0 V γ w a' hm hT => ?_⟩⟩
    rcases g2 with ⟨h2, ⟨h3, h6, h7, h8, h9, h10, h11⟩, h4, h5⟩ | ⟨rfl, h4, h5⟩
    · obtain ⟨ad, len, cap, q1, q2, q3⟩ := h11 V _ (acOf_den hw hT hx ha)
      exact gw_run hL hw hT h5 (opw_val (run_slice3 (lo := hi') hu hs lo ho q1 (hbt hT h6) ((den0 h7).1 (acOf_den hw hT (hhi _ rfl) hc)) ((den0 h8).1 (acOf_den hw hT (hmx _ rfl) hdd)) h9 h10 q2) ⟨V, hm, q3, .refl ..⟩)
    · exact gw_skip hL hw hT h5 ⟨V, hm, den_xU, .refl ..⟩
theorem nat_sub (a b : Nat) : Nat.sub a b = a - b := rfl
theorem acs_some : ∀ {args : List Operand} {as : List Ac}, acsOf cx en args = some as → args.length = as.length ∧ ∀ (i : Nat) (x : Operand), args[i]? = some x → ∃ a, as[i]? = some a ∧ acOf cx en x = some a
  | [], as, h => by
    have : some [] = some as := h
    cases this
    exact ⟨rfl, fun i x hi => by simp at hi⟩
  | x :: args, as, h => by
    have h' : @Option.rec Ac (fun _ => Option (List Ac)) none (fun a => @Option.rec (List Ac) (fun _ => Option (List Ac)) none (fun as => some (a :: as)) (acsOf cx en args)) (acOf cx en x) = some as := h
    cases e1 : acOf cx en x with
    | none => rw [e1] at h'; cases h'
    | some a =>
      rw [e1] at h'
      cases e2 : acsOf cx en args with
      | none => rw [e2] at h'; cases h'
      | some as' =>
        rw [e2] at h'
        cases h'
        obtain ⟨g1, g2⟩ := acs_some e2
        refine ⟨by simp [g1], fun i y hi => ?_⟩
        cases i with
        | zero => simp at hi; subst hi; exact ⟨a, rfl, e1⟩
        | succ i => simpa using g2 i y (by simpa using hi)
theorem zip_mem {args : List Operand} {xs : List X} {q : Operand × X} (h : q ∈ args.zip xs) : ∃ i : Nat, args[i]? = some q.1 ∧ xs[i]? = some q.2 := by
  obtain ⟨i, hi⟩ := List.mem_iff_getElem?.1 h
  rw [List.getElem?_zip_eq_some] at hi
  exact ⟨i, hi.1, hi.2⟩
theorem acs_den (hw : Wf cx en l) {args : List Operand} {as : List Ac} (ha : acsOf cx en args = some as) (hlk : ∀ x ∈ args, ∀ j ∈ tmpOf x, j ∈ looksL ol) {V : Vw} {γ : Nat → Nat} {a : Act} (hT : TOk (sta cx en fr l) V γ a (looksL ol)) :
    ∀ q ∈ args.zip (as.map fun a => a.g fr l), den V q.2 (a.eval q.1) := fun q hq => by
  obtain ⟨i, h1, h2⟩ := zip_mem hq
  obtain ⟨g1, g2⟩ := acs_some ha
  obtain ⟨ac, h3, h4⟩ := g2 i _ h1
  rw [List.getElem?_map, h3] at h2
  simp only [Option.map_some, Option.some.injEq] at h2
  rw [← h2]
  exact acOf_den hw hT (hlk _ (List.mem_iff_getElem?.2 ⟨i, h1⟩)) h4
theorem call_core {fl : Nat} (hcl : CallsOk P cx.cl) {g : FuncId} {c : Call} {f : Operand} {first caps ys : List X} {args : List Operand} (ho : o.op = .call c) (hc : c.callee = .value f) (hargs : c.args.toList = args) (hy : ys.length = args.length) (hfn : h.fl ≤ h.n) (hfl : fl = h.fl) (zs : List (Operand × X))
    (hsub : ∀ q ∈ args.zip ys, q ∈ zs) (hf : ∀ V (a : Act), (∀ q ∈ zs, den V q.2 (a.eval q.1)) → ∃ us vs : List Value, denL V first us ∧ denL V caps vs ∧ ((us = [] ∧ a.eval f = .func (.func g) #[] vs.toArray) ∨ (vs = [] ∧ a.eval f = .func (.func g) us.toArray #[]))) :
    CoreW P fl o zs h (fun h k => (cx.cl g).f (first ++ (ys ++ caps)) h k) := fun kk r e => by
  subst hfl
  obtain ⟨x, h', h1, h2, h3⟩ := hcl g _ h kk r hfn e
  refine ⟨x, h', h1, h2, fun hfa w0 V w a hm hd => ?_⟩
  obtain ⟨us, vs, d1, d2, hfv⟩ := hf V a hd
  have d3 := denL_zip (V := V) (ev := a.eval) hy fun q hq => hd q (hsub q hq)
  have happ : ∀ {xs ys : List X} {us vs : List Value}, denL V xs us → denL V ys vs → denL V (xs ++ ys) (us ++ vs) := fun {xs ys us vs} h1 h2 => by
    induction xs generalizing us with
    | nil => rw [denL_nil.1 h1]; exact h2
    | cons x xs ih =>
      obtain ⟨v, r, rfl, g1, g2⟩ := denL_cons.1 h1
      exact denL_cons.2 ⟨v, _, rfl, g1, ih g2⟩
  obtain ⟨hE, hcall⟩ := h3 hfa w0 V w (us ++ (args.map a.eval ++ vs)).toArray hm (by simpa using happ d1 (happ d3 d2))
  intro next K hn
  have hmap : c.args.map a.eval = (args.map a.eval).toArray := by apply Array.ext'; simp [← hargs]
  unfold Oper.wp
  rcases hfv with ⟨rfl, hfv⟩ | ⟨rfl, hfv⟩
  · rw [execCall hc hfv ho hE, Oper.upon_enter, hmap]
    have : (args.map a.eval).toArray ++ vs.toArray = ([] ++ (args.map a.eval ++ vs)).toArray := by simp
    rw [this]
    exact hcall.mono fun e w' ⟨v, V', he, g1, g2, g3⟩ => by subst he; exact hn v w' ⟨V', g1, g2, g3⟩
  · rw [execCallM hc hfv ho hE, Oper.upon_enter, hmap]
    have : us.toArray ++ (args.map a.eval).toArray = (us ++ (args.map a.eval ++ [])).toArray := by simp
    rw [this]
    exact hcall.mono fun e w' ⟨v, V', he, g1, g2, g3⟩ => by subst he; exact hn v w' ⟨V', g1, g2, g3⟩
theorem callD_run {a : Ac} {as : List Ac} {kk : Kx} {r'} (ek : (callD cx.cl a (argsB as)).f fr l h kk = some r') : (a.g fr l).n % 32 = 9 ∧
    ((∃ g, (a.g fr l).n / 32 = g + 1000000 ∧ (cx.cl g).f ((a.g fr l).l ++ as.map fun a => a.g fr l) h kk = some r') ∨ ((a.g fr l).n / 32 < 1000000 ∧ (cx.cl ((a.g fr l).n / 32)).f ((as.map fun a => a.g fr l) ++ (a.g fr l).l) h kk = some r')) := by
  unfold callD at ek
  simp only [opn_eq] at ek
  obtain ⟨t, e3⟩ := cndR_t ek
  refine ⟨tagT t, ?_⟩
  rw [frc_eq, show Nat.shiftRight (a.g fr l).n 5 = (a.g fr l).n / 32 from shr _ 5] at e3
  generalize (a.g fr l).n / 32 = m at e3 ⊢
  rcases cndR_some e3 with ⟨t1, e4⟩ | ⟨t1, e4⟩
  · rcases cndR_some e4 with ⟨_, e5⟩ | ⟨t2, e5⟩
    · cases e5
    · rw [frc_eq, argsB_eq, appL_eq] at e5
      exact .inl ⟨_, by have := bleT t1; rw [nat_sub]; omega, e5⟩
  · rw [argsB_eq, appL_eq] at e4
    exact .inr ⟨bleF t1, e4⟩
theorem cCall_out (hcl : CallsOk P cx.cl) (hL : Lnk P cx ops o ol) (hw : Wf cx en l) (hfn : h.fl ≤ h.n) {f : Operand} {args : List Operand} (hop : ol.op = .call f args)
    (hd : ∀ t, ol.dst = some t → mem cx.PV t = false) (e : (cCall f args cx ol en ih).f fr l h k = some r) : Out P cx ops o ol en fr l h ih k r := by
  have hs := hL.op
  rw [hop] at hs
  obtain ⟨c, ho, hc, hargs⟩ := strip_call hs
  have hlk : ∀ y ∈ opndsOf ol.op, ∀ j ∈ tmpOf y, j ∈ looksL ol := fun y hy => tmp_look hy
  have hla : ∀ x ∈ args, ∀ j ∈ tmpOf x, j ∈ looksL ol := fun x hx => hlk x (by rw [hop]; simp [opndsOf, hx])
  have hlf : ∀ j ∈ tmpOf f, j ∈ looksL ol := hlk f (by rw [hop]; simp [opndsOf])
  have hc0 : cls0 ol.op ≠ 0 := by rw [hop]; show (4 : Nat) ≠ 0; omega
  have hc3 : true = true → 3 ≤ cls0 ol.op := fun _ => by rw [hop]; show 3 ≤ 4; omega
  have hvp : (∃ ag sz x, ol.op = .load ag sz x) ∨ (∃ sz x y, ol.op = .store sz x y) → ∀ v, ol.vp = some v → v = none := fun hh => by rcases hh with ⟨_, _, _, hh⟩ | ⟨_, _, _, hh⟩ <;> rw [hop] at hh <;> cases hh
  unfold cCall at e
  obtain ⟨as, has, e1⟩ := oR_some (a := acsOf cx en args) e
  have hlen : (as.map fun a => a.g fr l).length = args.length := by simp [(acs_some has).1]
  have gen1 : ∀ a, acOf cx en f = some a → (gen cx ol en ih (callD cx.cl a (argsB as))).f fr l h k = some r → Out P cx ops o ol en fr l h ih k r := fun a ha e2 => by
    refine gen_heap true hL hw hd hfn hc0 hc3 hvp (xs := (f, a.g fr l) :: args.zip (as.map fun a => a.g fr l)) e2 (fun V γ a' hT q hq => ?_) fun h1 fl hfn1 hf => ?_
    · rcases List.mem_cons.1 hq with rfl | hq
      · exact acOf_den hw hT hlf ha
      · exact acs_den hw has hla hT q hq
    · intro kk r' ek
      obtain ⟨ht, hh⟩ := callD_run ek
      rcases hh with ⟨g, hg, e5⟩ | ⟨hg, e4⟩
      · have hco := call_core (o := o) (cx := cx) (h := h1) (fl := fl) hcl (g := g) (first := (a.g fr l).l) (caps := []) ho hc hargs hlen hfn1 (hf rfl) ((f, a.g fr l) :: args.zip (as.map fun a => a.g fr l)) (fun q hq => List.mem_cons_of_mem _ hq) fun V a' hd' => by
          obtain ⟨vs, hv, hl⟩ := (den9 ht).1 (hd' (f, a.g fr l) (by simp))
          refine ⟨vs, [], hl, denL_nil.2 rfl, .inr ⟨rfl, ?_⟩⟩
          have hv : a'.eval f = funV ((a.g fr l).n / 32) vs.toArray := hv
          rw [hv, hg, funV, if_neg (by omega), Nat.add_sub_cancel]
        rw [List.append_nil] at hco
        exact hco kk r' e5
      · have hco := call_core (o := o) (cx := cx) (h := h1) (fl := fl) hcl (g := (a.g fr l).n / 32) (first := []) (caps := (a.g fr l).l) ho hc hargs hlen hfn1 (hf rfl) ((f, a.g fr l) :: args.zip (as.map fun a => a.g fr l)) (fun q hq => List.mem_cons_of_mem _ hq) fun V a' hd' => by
          obtain ⟨vs, hv, hl⟩ := (den9 ht).1 (hd' (f, a.g fr l) (by simp))
          refine ⟨[], vs, denL_nil.2 rfl, hl, .inl ⟨rfl, ?_⟩⟩
          have hv : a'.eval f = funV ((a.g fr l).n / 32) vs.toArray := hv
          rw [hv, funV, if_pos hg]
        exact hco kk r' e4
  have viaAc : (oR (acOf cx en f) fun a => gen cx ol en ih (callD cx.cl a (argsB as))).f fr l h k = some r → Out P cx ops o ol en fr l h ih k r := fun e1 => by
    obtain ⟨a, ha, e2⟩ := oR_some e1
    exact gen1 a ha e2
  cases f with
  | func g =>
    have e2 : (gen cx ol en ih ⟨fun fr l h k => (argsB as).f fr l fun xs => (cx.cl g).f xs h k⟩).f fr l h k = some r := e1
    refine gen_heap true hL hw hd hfn hc0 hc3 hvp (xs := args.zip (as.map fun a => a.g fr l)) e2 (fun V γ a' hT q hq => acs_den hw has hla hT q hq) fun h1 fl hfn1 hf => ?_
    intro kk r' ek
    have ek' : (argsB as).f fr l (fun xs => (cx.cl g).f xs h1 kk) = some r' := ek
    rw [argsB_eq] at ek'
    have hco := call_core (o := o) (cx := cx) (h := h1) (fl := fl) hcl (g := g) (first := []) (caps := []) ho hc hargs hlen hfn1 (hf rfl) (args.zip (as.map fun a => a.g fr l)) (fun q hq => hq) fun V a' hd' => ⟨[], [], denL_nil.2 rfl, denL_nil.2 rfl, .inl ⟨rfl, rfl⟩⟩
    rw [List.append_nil] at hco
    exact hco kk r' ek'
  | tmp j => exact viaAc e1
  | const v => exact viaAc e1
  | global g => exact viaAc e1
end
end
end Go.M
set_option maxHeartbeats 1000000
namespace Go.M
open Go
open Go.Eng (SOp SOper SCode)
noncomputable section
variable [Ctxt]
section
variable {P : Program} {cx : Cx} {ops : Array Oper} {o : Oper} {ol : OL} {en : En} {fr : FX} {l : Loc} {h : Hp} {k : Kc} {r : List Prop} {ih : En → FR}
theorem mapO_some {α β : Type} {f : α → Option β} : ∀ {xs : List α} {ys : List β}, mapO f xs = some ys → xs.length = ys.length ∧ ∀ (i : Nat) (x : α), xs[i]? = some x → ∃ y, ys[i]? = some y ∧ f x = some y
  | [], ys, h => by simp [mapO] at h; subst h; exact ⟨rfl, fun i x hi => by simp at hi⟩
  | x :: xs, ys, h => by
    unfold mapO at h
    split at h
    · rename_i y r' hy hr
      cases h
      obtain ⟨g1, g2⟩ := mapO_some hr
      refine ⟨by simp [g1], fun i z hi => ?_⟩
      cases i with
      | zero => simp at hi; subst hi; exact ⟨y, rfl, hy⟩
      | succ i => simpa using g2 i z (by simpa using hi)
    · cases h
theorem look_mem {x : Operand} (hx : x ∈ opndsOf ol.op) : ∀ j ∈ tmpOf x, j ∈ looksL ol := tmp_look hx
theorem novp {so : SOp} (hop : ol.op = so) (h1 : ∀ ag sz x, so ≠ .load ag sz x) (h2 : ∀ sz x y, so ≠ .store sz x y) : (∃ ag sz x, ol.op = .load ag sz x) ∨ (∃ sz x y, ol.op = .store sz x y) → ∀ v, ol.vp = some v → v = none := fun hh => by
  rcases hh with ⟨a, b, c, hh⟩ | ⟨a, b, c, hh⟩
  · exact absurd (hop.symm.trans hh) (h1 a b c)
  · exact absurd (hop.symm.trans hh) (h2 a b c)
theorem cBuild_out (hL : Lnk P cx ops o ol) (hw : Wf cx en l) {zs : List Value} {ps : List (Nat × Nat × Operand)} (hop : ol.op = .build zs ps) (hd : ∀ t, ol.dst = some t → mem cx.PV t = false)
    (e : (cBuild zs ps cx ol en ih).f fr l h k = some r)
    (hcore : zs.all Value.oneCell' = true → ∀ (xs : List X) h1, xs.length = ps.length → CoreP P o ((ps.map (·.2.2)).zip xs) h1 (fun h k => bldX ((ps.zip xs).map fun p => (p.1.1, p.1.2.1, p.2)) (zs.map encV) fun c => k ⟨32 * zs.length + 2, c, oZ⟩ h)) : Out P cx ops o ol en fr l h ih k r := by
  unfold cBuild at e
  obtain ⟨hone, e⟩ := cnd_f e
  rw [sealX_run] at e
  obtain ⟨ps', hps, e1⟩ := oR_some (a := mapO _ ps) e
  obtain ⟨m1, m2⟩ := mapO_some hps
  let xs : List X := ps'.map fun p => p.2.2.g fr l
  have hget : ∀ (i : Nat) (p : Nat × Nat × Operand), ps[i]? = some p → ∃ ac, ps'[i]? = some (p.1, p.2.1, ac) ∧ acOf cx en p.2.2 = some ac := fun i p hp => by
    obtain ⟨y, h1, h2⟩ := m2 i p hp
    cases ha : acOf cx en p.2.2 with
    | none => rw [ha] at h2; cases h2
    | some ac => rw [ha] at h2; cases h2; exact ⟨ac, h1, rfl⟩
  have heq : (ps'.map fun p => (p.1, p.2.1, p.2.2.g fr l)) = (ps.zip xs).map fun p => (p.1.1, p.1.2.1, p.2) := by
    apply List.ext_getElem?
    intro i
    simp only [List.getElem?_map]
    cases hp : ps[i]? with
    | none =>
      have h1 : ps'[i]? = none := by rw [List.getElem?_eq_none_iff] at hp ⊢; omega
      have h2 : (ps.zip xs)[i]? = none := by rw [List.getElem?_eq_none_iff] at hp ⊢; simp; omega
      rw [h1, h2]; rfl
    | some p =>
      obtain ⟨ac, h1, _⟩ := hget i p hp
      have h2 : (ps.zip xs)[i]? = some (p, ac.g fr l) := by rw [List.getElem?_zip_eq_some]; exact ⟨hp, by simp [xs, h1]⟩
      rw [h1, h2]; rfl
  refine gen_pure hL hw hd (xs := (ps.map (·.2.2)).zip xs) e1 (fun V γ a hT q hq => ?_) fun h1 kk r' ek => ?_
  · obtain ⟨i, h1, h2⟩ := zip_mem hq
    simp only [List.getElem?_map, Option.map_eq_some_iff] at h1
    obtain ⟨p, hp, hpq⟩ := h1
    obtain ⟨ac, h3, h4⟩ := hget i p hp
    simp only [xs, List.getElem?_map, h3, Option.map_some, Option.some.injEq] at h2
    rw [← h2, ← hpq]
    exact acOf_den hw hT (look_mem (by rw [hop]; exact List.mem_map.2 ⟨p, List.mem_iff_getElem?.2 ⟨i, hp⟩, rfl⟩)) h4
  · have ek' : (buildB ps').f fr l (zsOf zs) (fun c => kk ⟨32 * zs.length + 2, c, oZ⟩ h1) = some r' := ek
    rw [buildB_eq, heq] at ek'
    exact hcore hone xs h1 (by simp [xs, m1]) kk r' ek'
theorem cBslice_outM (hL : Lnk P cx ops o ol) (hw : Wf cx en l) (hfn : h.fl ≤ h.n) {ty el : TypeId} {len sz : Nat} {zs : List Value} {parts : Array (Nat × Operand)} (hu : P.underlying ty = some (.slice el)) (hz : Go.Eng.zerosOf P el = some zs) (hs : Go.Eng.sizeP P el = some sz) (hzl : zs.length = sz) (hpos : 0 < sz) (hmax : len * sz ≤ 16777216)
    (hone : zs.all Value.oneCell' = true) (ho : o.op = .buildSlice ty len parts) (hop : ol.op = .bslice el sz zs len parts.toList) (hd : ∀ t, ol.dst = some t → mem cx.PV t = false)
    (e : (cBslice sz zs len parts.toList cx ol en ih).f fr l h k = some r) : OutM P cx ops o ol en fr l h ih k r := by
  unfold cBslice at e
  obtain ⟨_, e⟩ := cnd_f e
  rw [sealX_run] at e
  obtain ⟨ps', hps, e1⟩ := oR_some (a := mapO _ parts.toList) e
  obtain ⟨m1, m2⟩ := mapO_some hps
  let xs : List X := ps'.map fun p => p.2.g fr l
  have hget : ∀ (i : Nat) (p : Nat × Operand), parts.toList[i]? = some p → ∃ ac, ps'[i]? = some (p.1, ac) ∧ acOf cx en p.2 = some ac := fun i p hp => by
    obtain ⟨y, h1, h2⟩ := m2 i p hp
    cases ha : acOf cx en p.2 with
    | none => rw [ha] at h2; cases h2
    | some ac => rw [ha] at h2; cases h2; exact ⟨ac, h1, rfl⟩
  have heq : (ps'.map fun p => (p.1, p.2.g fr l)) = (parts.toList.zip xs).map fun p => (p.1.1, p.2) := by
    apply List.ext_getElem?
    intro i
    simp only [List.getElem?_map]
    cases hp : parts.toList[i]? with
    | none =>
      have h1 : ps'[i]? = none := by rw [List.getElem?_eq_none_iff] at hp ⊢; omega
      have h2 : (parts.toList.zip xs)[i]? = none := by rw [List.getElem?_eq_none_iff] at hp ⊢; rw [List.length_zip]; omega
      rw [h1, h2]; rfl
    | some p =>
      obtain ⟨ac, h1, _⟩ := hget i p hp
      have h2 : (parts.toList.zip xs)[i]? = some (p, ac.g fr l) := by rw [List.getElem?_zip_eq_some]; exact ⟨hp, by simp [xs, h1]⟩
      rw [h1, h2]; rfl
  refine gen_mk hL hw hd hfn (by rw [hop]; show (2 : Nat) ≠ 0; omega) (novp hop (by simp) (by simp)) (xs := (parts.toList.map (·.2)).zip xs) e1 (fun V γ a hT q hq => ?_) fun h1 kk r' ek => ?_
  · obtain ⟨i, h1, h2⟩ := zip_mem hq
    simp only [List.getElem?_map, Option.map_eq_some_iff] at h1
    obtain ⟨p, hp, hpq⟩ := h1
    obtain ⟨ac, h3, h4⟩ := hget i p hp
    simp only [xs, List.getElem?_map, h3, Option.map_some, Option.some.injEq] at h2
    rw [← h2, ← hpq]
    exact acOf_den hw hT (look_mem (by rw [hop]; exact List.mem_map.2 ⟨p, List.mem_iff_getElem?.2 ⟨i, hp⟩, rfl⟩)) h4
  · have ek' : (rowsB sz ps').f fr l (repL ⟨32 * sz + 2, zsOf zs, oZ⟩ len) (fun rows => frc (Nat.add (Nat.mul 32 sz) 1) fun e => allocK ⟨e, rows, oZ⟩ h1 fun b h => slX b 0 len 0 h kk) = some r' := ek
    rw [rowsB_eq, heq] at ek'
    exact xBslice_mk (xs := xs) hu hz hs hzl hpos hmax ho hone (by simp [xs, m1]) kk r' ek'
theorem cFn_out (hL : Lnk P cx ops o ol) (hw : Wf cx en l) {f : Nat} {lim : Bool} {cs : List Operand} (hsub : ∀ x ∈ cs, x ∈ opndsOf ol.op) (hd : ∀ t, ol.dst = some t → mem cx.PV t = false)
    (e : (cFn f lim cs cx ol en ih).f fr l h k = some r) (hcore : lim = true → ∀ (xs : List X) h1, xs.length = cs.length → CoreP P o (cs.zip xs) h1 (fun h k => k ⟨32 * f + 9, xs, oZ⟩ h)) : Out P cx ops o ol en fr l h ih k r := by
  unfold cFn at e
  obtain ⟨hlim, e⟩ := cnd_f e
  obtain ⟨as, has, e1⟩ := oR_some (a := acsOf cx en cs) e
  refine gen_pure hL hw hd (xs := cs.zip (as.map fun a => a.g fr l)) e1 (fun V γ a hT => acs_den hw has (fun x hx => look_mem (hsub x hx)) hT) fun h1 kk r' ek => ?_
  have ek' : (argsB as).f fr l (fun xs => kk ⟨32 * f + 9, xs, oZ⟩ h1) = some r' := ek
  rw [argsB_eq] at ek'
  exact hcore hlim _ h1 (by simp [(acs_some has).1]) kk r' ek'
end
end
end Go.M
set_option maxHeartbeats 2000000
namespace Go.M
open Go
open Go.Eng (SOp SOper SCode)
noncomputable section
variable [Ctxt]
section
variable {P : Program} {cx : Cx} {ops : Array Oper} {o : Oper} {ol : OL} {en : En} {fr : FX} {l : Loc} {h : Hp} {k : Kc} {r : List Prop} {ih : En → FR}
theorem plan_ok (hcl : CallsOk P cx.cl) (hL : Lnk P cx ops o ol) (hw : Wf cx en l) (hfn : h.fl ≤ h.n) (e : (plan ol.op cx ol en ih).f fr l h k = some r) : Out P cx ops o ol en fr l h ih k r := by
  have hs := hL.op
  have hdn : isNew ol.op = false → ∀ t, ol.dst = some t → mem cx.PV t = false := fun hi t ht => by
    cases hm : mem cx.PV t with
    | false => rfl
    | true => rw [hL.pv t ht hm] at hi; cases hi
  have lk : ∀ x, x ∈ opndsOf ol.op → ∀ j ∈ tmpOf x, j ∈ looksL ol := fun x hx => look_mem hx
  generalize hop : ol.op = so at e hs
  rw [hop] at hdn lk
  unfold Go.Eng.strip at hs
  split at hs
  · rename_i x ho; cases hs; exact cMov_out hL hw hop (.inl ho) (hdn rfl) e
  · rename_i x ho; cases hs; exact cMov_out hL hw hop (.inr ho) (hdn rfl) e
  · rename_i c x y ho; cases hs
    exact p3_pure hL hw (hdn rfl) e (lk c (by simp [opndsOf])) (lk x (by simp [opndsOf])) (lk y (by simp [opndsOf])) fun u v s h1 => xPick_ok ho
  · rename_i el ho
    split at hs
    · rename_i zs hz; cases hs; exact cAlloc_out hL hw hfn hz ho hop e
    · cases hs
  · rename_i el x ho; cases hs; exact cBox_out hL hw hfn ho hop e
  · rename_i ty parts ho
    split at hs
    · rename_i fs hu
      split at hs
      · rename_i zs hz
        split at hs
        · rename_i ps hps
          split at hs
          · rename_i hall
            cases hs
            exact cBuild_out hL hw hop (hdn rfl) e fun hone xs h1 hxs => xBuild_ok hu hz hps (fun f hf => List.all_eq_true.1 hall f hf) ho hone rfl hxs
          · cases hs
        · cases hs
      · cases hs
    · rename_i n el hu
      split at hs
      · rename_i zs hz
        split at hs
        · rename_i sz hsz
          cases hs
          refine cBuild_out hL hw hop (hdn rfl) e fun hone xs h1 hxs => ?_
          have := xBuildA_ok (h := h1) (xs := xs) hu hz hsz ho hone rfl (by simpa using hxs)
          have e1 : (parts.toList.map fun p => (p.1 * sz, sz, p.2)).map (·.2.2) = parts.toList.map (·.2) := by rw [List.map_map]; rfl
          have e2 : ((parts.toList.map fun p => (p.1 * sz, sz, p.2)).zip xs).map (fun p => (p.1.1, p.1.2.1, p.2)) = (parts.toList.zip xs).map fun p => (p.1.1 * sz, sz, p.2) := by rw [List.zip_map_left, List.map_map]; rfl
          rw [e1, e2]; exact this
        · cases hs
      · cases hs
    · cases hs
  · rename_i ty len parts ho
    split at hs
    · rename_i el hu
      split at hs
      · rename_i zs hz
        split at hs
        · rename_i sz hsz
          split at hs
          · rename_i hc
            cases hs
            exact (cBslice_outM hL hw hfn hu hz hsz hc.1 hc.2.1 hc.2.2.1 hc.2.2.2 ho hop (hdn rfl) e).out
          · cases hs
        · cases hs
      · cases hs
    · cases hs
  · rename_i ty x ho
    split at hs
    · rename_i ag ha
      split at hs
      · rename_i sz hsz; cases hs; exact cLoad_out hL hw hfn ha hsz ho hop (hdn rfl) e
      · cases hs
    · cases hs
  · rename_i ty x y ho
    split at hs
    · rename_i sz hsz; cases hs; exact cStore_out hL hw hfn hsz ho hop (hdn rfl) e
    · cases hs
  · rename_i x ho; cases hs; exact cNilc_out hL hw ho hop (hdn rfl) e
  · rename_i op ty x y ty' ho
    have bin : ∀ so', so' = SOp.bin op x y → so = so' → Out P cx ops o ol en fr l h ih k r := fun so' h1 h2 => by
      subst h2; subst h1
      exact p2_pure hL hw (hdn rfl) e (lk x (by simp [opndsOf])) (lk y (by simp [opndsOf])) fun u v h1 => binB_ok op ho
    split at hs
    · rename_i fs hu
      split at hs
      · rename_i ks hk
        split at hs
        · rename_i hc
          split at hs
          · cases hs
            exact p2_pure hL hw (hdn rfl) e (lk x (by simp [opndsOf])) (lk y (by simp [opndsOf])) fun u v h1 => xEqs_ok (neg := false) hu hk hc.1 hc.2 ho
          · cases hs
            exact p2_pure hL hw (hdn rfl) e (lk x (by simp [opndsOf])) (lk y (by simp [opndsOf])) fun u v h1 => xEqs_ok (neg := true) hu hk hc.1 hc.2 ho
          · cases hs
        · cases hs
      · cases hs; cases e
    · exact bin _ rfl (Option.some.inj hs).symm
    · exact bin _ rfl (Option.some.inj hs).symm
    · rename_i hu
      split at hs
      · cases hs; exact p2_pure hL hw (hdn rfl) e (lk x (by simp [opndsOf])) (lk y (by simp [opndsOf])) fun u v h1 => xEqb_ok (neg := false) hu ho
      · cases hs; exact p2_pure hL hw (hdn rfl) e (lk x (by simp [opndsOf])) (lk y (by simp [opndsOf])) fun u v h1 => xEqb_ok (neg := true) hu ho
      · cases hs
    · rename_i el hu
      split at hs
      · cases hs; exact p1_pure hL hw (hdn rfl) e (lk x (by simp [opndsOf])) fun u h1 => xIsnil_ok (neg := false) hu ho
      · cases hs; exact p1_pure hL hw (hdn rfl) e (lk x (by simp [opndsOf])) fun u h1 => xIsnil_ok (neg := true) hu ho
      · cases hs
    · cases hs
  · rename_i op ty x ho
    cases hs
    have e' : (cUn op x cx ol en ih).f fr l h k = some r := e
    unfold cUn at e'
    split at e'
    · exact p1_pure hL hw (hdn rfl) e' (lk x (by simp [opndsOf])) fun u h1 => xNot_ok ho
    · exact p1_pure hL hw (hdn rfl) e' (lk x (by simp [opndsOf])) fun u h1 => xNeg_ok ho
    · cases e'
  · rename_i src dst x ho
    split at hs
    · rename_i k0 q h1 h2; cases hs
      have e' : (cConv q x cx ol en ih).f fr l h k = some r := e
      unfold cConv at e'
      split at e'
      · exact p1_pure hL hw (hdn rfl) e' (lk x (by simp [opndsOf])) fun u h1' => xConv64_ok h1 h2 ho
      · exact p1_pure hL hw (hdn rfl) e' (lk x (by simp [opndsOf])) fun u h1' => xConv_ok h1 h2 ho
    · split at hs
      · cases hs; cases e
      · cases hs
    · rename_i el h1 h2
      split at hs
      · rename_i h3; cases hs
        exact p1_heap false hL hw (hdn rfl) hfn (by rw [hop]; show (1 : Nat) ≠ 0; omega) (fun h => by cases h) (novp hop (by simp) (by simp)) e (lk x (by simp [opndsOf])) fun u h1' fl _ => xB2s_ok h1 h3 h2 ho
      · cases hs
    · cases hs
  · rename_i f first caps ho
    split at hs
    · rename_i hf; cases hs
      exact cFn_out hL hw (fun x hx => by rw [hop]; exact hx) (hdn rfl) e fun hlim xs h1 hxs => xMkfn_ok hf ho (by simpa [Nat.blt_eq] using hlim) hxs
    · split at hs
      · rename_i hf; cases hs
        exact cFn_out hL hw (fun x hx => by rw [hop]; exact hx) (hdn rfl) e fun hlim xs h1 hxs => xMkmfn_ok hf ho hxs
      · cases hs
  · rename_i ty ho; cases hs
    exact gen_heap false hL hw (hdn rfl) hfn (by rw [hop]; show (2 : Nat) ≠ 0; omega) (fun h => by cases h) (novp hop (by simp) (by simp)) (xs := []) e (fun V γ a hT q hq => by simp at hq) fun h1 fl _ _ => .of (xMkmap_ok ho)
  · rename_i ty m kx ho
    split at hs
    · rename_i kt et hu
      split at hs
      · rename_i kk z hk hz
        cases hs
        have e' : (cLook false z m kx cx ol en ih).f fr l h k = some r := e
        unfold cLook at e'
        obtain ⟨hz1, e1⟩ := cnd_f e'
        rw [sealX_run] at e1
        refine p2_heap false hL hw (hdn rfl) hfn (by rw [hop]; show (1 : Nat) ≠ 0; omega) (fun h => by cases h) (novp hop (by simp) (by simp)) e1 (lk m (by simp [opndsOf])) (lk kx (by simp [opndsOf])) fun u v h1' fl _ => xLook_ok hu hk ?_ hz1 ho
        unfold Go.Eng.zeroVal at hz
        split at hz
        · rename_i i hi; exact ⟨i, hi, hz⟩
        · cases hz
      · cases hs
    · cases hs
  · rename_i ty m kx ho
    split at hs
    · rename_i kt et hu
      split at hs
      · rename_i kk z hk hz
        cases hs
        have e' : (cLook true z m kx cx ol en ih).f fr l h k = some r := e
        unfold cLook at e'
        obtain ⟨hz1, e1⟩ := cnd_f e'
        rw [sealX_run] at e1
        refine p2_heap false hL hw (hdn rfl) hfn (by rw [hop]; show (1 : Nat) ≠ 0; omega) (fun h => by cases h) (novp hop (by simp) (by simp)) e1 (lk m (by simp [opndsOf])) (lk kx (by simp [opndsOf])) fun u v h1' fl _ => xLook2_ok hu hk ?_ hz1 ho
        unfold Go.Eng.zeroVal at hz
        split at hz
        · rename_i i hi; exact ⟨i, hi, hz⟩
        · cases hz
      · cases hs
    · cases hs
  · rename_i ty m kx x ho
    split at hs
    · rename_i kt et hu
      split at hs
      · rename_i kk hk; cases hs
        exact p3_heap true hL hw (hdn rfl) hfn (by rw [hop]; show (3 : Nat) ≠ 0; omega) (fun _ => by rw [hop]; exact Nat.le_refl 3) (novp hop (by simp) (by simp)) e (lk m (by simp [opndsOf])) (lk kx (by simp [opndsOf])) (lk x (by simp [opndsOf])) fun u v s h1' fl hf => xMput_ok hu hk (.inl ho) (hf rfl)
      · cases hs
    · cases hs
  · rename_i ty m kx x ho
    split at hs
    · rename_i kt et hu
      split at hs
      · rename_i kk hk; cases hs
        exact p3_heap true hL hw (hdn rfl) hfn (by rw [hop]; show (3 : Nat) ≠ 0; omega) (fun _ => by rw [hop]; exact Nat.le_refl 3) (novp hop (by simp) (by simp)) e (lk m (by simp [opndsOf])) (lk kx (by simp [opndsOf])) (lk x (by simp [opndsOf])) fun u v s h1' fl hf => xMput_ok hu hk (.inr ho) (hf rfl)
      · cases hs
    · cases hs
  · rename_i ty x y ho
    split at hs
    · rename_i el hu
      split at hs
      · rename_i zs sz by_ hz hsz hb
        split at hs
        · rename_i hc; cases hs
          have e' : (cMkslice sz by_ zs x y cx ol en ih).f fr l h k = some r := e
          unfold cMkslice at e'
          obtain ⟨_, e1⟩ := cnd_f e'
          exact p2_heap false hL hw (hdn rfl) hfn (by rw [hop]; show (2 : Nat) ≠ 0; omega) (fun h => by cases h) (novp hop (by simp) (by simp)) e1 (lk x (by simp [opndsOf])) (lk y (by simp [opndsOf])) fun u v h1' fl _ => xMkslice_ok ⟨hu, hz, hsz, hb, hc.1, hc.2.1⟩ hc.2.2 ho
        · cases hs
      · cases hs
    · cases hs
  · rename_i ty x lo hi mx ho
    split at hs
    · rename_i el hu
      split at hs
      · rename_i sz hsz; cases hs; exact cSlice_out hL hw hfn hu hsz ho hop (hdn rfl) e
      · cases hs
    · split at hs
      · cases hs; cases e
      · cases hs
    · rename_i n el hu
      split at hs
      · split at hs
        · rename_i sz hsz; cases hs
          exact p1_heap false hL hw (hdn rfl) hfn (by rw [hop]; show (1 : Nat) ≠ 0; omega) (fun h => by cases h) (novp hop (by simp) (by simp)) e (lk x (by simp [opndsOf])) fun u h1' fl _ => xSarr_ok hu hsz ho
        · cases hs
      · cases hs
    · cases hs
  · rename_i ty x f ho
    split at hs
    · rename_i fs hu
      split at hs
      · rename_i fd hf
        split at hs
        · rename_i sz hsz
          split at hs
          · cases hs
          · rename_i hne; cases hs; exact cFaddr_out hL hw hu hf hsz hne ho hop (hdn rfl) e
        · cases hs
      · cases hs
    · cases hs
  · rename_i ty x f ho
    split at hs
    · rename_i fs hu
      split at hs
      · rename_i fd hf
        split at hs
        · rename_i sz ag hsz ha; cases hs
          exact p1_pure hL hw (hdn rfl) e (lk x (by simp [opndsOf])) fun u h1 => xFld_ok hu hf hsz ha ho
        · cases hs
      · cases hs
    · cases hs
  · rename_i ty x i ho
    split at hs
    · rename_i el hu
      split at hs
      · rename_i sz hsz; cases hs
        exact p2_pure hL hw (hdn rfl) e (lk x (by simp [opndsOf])) (lk i (by simp [opndsOf])) fun u v h1 => xIaddr_ok hu hsz ho
      · cases hs
    · rename_i n el hu
      split at hs
      · rename_i sz hsz; cases hs
        exact p2_pure hL hw (hdn rfl) e (lk x (by simp [opndsOf])) (lk i (by simp [opndsOf])) fun u v h1 => xIaddrA_ok hu hsz ho
      · cases hs
    · cases hs
  · rename_i ty x i ho
    split at hs
    · rename_i n el hu
      split at hs
      · rename_i sz ag hsz ha; cases hs
        exact p2_pure hL hw (hdn rfl) e (lk x (by simp [opndsOf])) (lk i (by simp [opndsOf])) fun u v h1 => xIdx_ok hu hsz ha ho
      · cases hs
    · rename_i hu; cases hs
      exact p2_pure hL hw (hdn rfl) e (lk x (by simp [opndsOf])) (lk i (by simp [opndsOf])) fun u v h1 => xIdxs_ok hu ho
    · cases hs
  · rename_i x i ho; cases hs
    exact p1_pure hL hw (hdn rfl) e (lk x (by simp [opndsOf])) fun u h1 => xExt_ok ho
  · cases hs; cases e
  · cases hs; cases e
  · rename_i c ho
    split at hs
    · cases hs; exact cCall_out hcl hL hw hfn hop (hdn rfl) e
    · rename_i hc
      split at hs
      · rename_i ty x h2 h3
        split at hs
        · rename_i el hu; cases hs
          exact p1_pure hL hw (hdn rfl) e (lk x (by simp [opndsOf])) fun u h1 => xLen_ok hu hc h2 h3 ho
        · rename_i hu; cases hs
          exact p1_pure hL hw (hdn rfl) e (lk x (by simp [opndsOf])) fun u h1 => xSlen_ok hu hc h2 h3 ho
        · cases hs
      · cases hs
    · rename_i hc
      split at hs
      · rename_i ty x h2 h3
        split at hs
        · rename_i el hu; cases hs
          exact p1_heap false hL hw (hdn rfl) hfn (by rw [hop]; show (1 : Nat) ≠ 0; omega) (fun h => by cases h) (novp hop (by simp) (by simp)) e (lk x (by simp [opndsOf])) fun u h1' fl _ => xCap_ok hu hc h2 h3 ho
        · cases hs
      · cases hs
    · rename_i hc
      split at hs
      · rename_i ty ty' s x h2 h3
        have h2' : c.argTypes = #[ty, ty'] := Array.toList_inj.1 (by simpa using h2)
        have h3' : c.args = #[s, x] := Array.toList_inj.1 (by simpa using h3)
        split at hs
        · rename_i hty
          subst hty
          split at hs
          · rename_i el hu
            split at hs
            · rename_i zs sz by_ hz hsz hb
              split at hs
              · rename_i hcc; cases hs
                exact p2_heap true hL hw (hdn rfl) hfn (by rw [hop]; show (4 : Nat) ≠ 0; omega) (fun _ => by rw [hop]; show 3 ≤ 4; omega) (novp hop (by simp) (by simp)) e (lk s (by simp [opndsOf])) (lk x (by simp [opndsOf])) fun u v h1' fl hf => xApp_ok ⟨hu, hz, hsz, hb, hcc.1, hcc.2⟩ hc h2' h3' ho (hf rfl)
              · cases hs
            · cases hs
          · cases hs
        · split at hs
          · rename_i el q hu hti
            split at hs
            · rename_i zs sz by_ hz hsz hb
              split at hs
              · rename_i hcc; cases hs
                have e' : (cAppz sz by_ zs s x cx ol en ih).f fr l h k = some r := e
                unfold cAppz at e'
                obtain ⟨_, e1⟩ := cnd_f e'
                exact p2_heap false hL hw (hdn rfl) hfn (by rw [hop]; show (2 : Nat) ≠ 0; omega) (fun h => by cases h) (novp hop (by simp) (by simp)) e1 (lk s (by simp [opndsOf])) (lk x (by simp [opndsOf])) fun u v h1' fl _ => xAppz_ok ⟨hu, hz, hsz, hb, hcc.1, hcc.2.1⟩ hcc.2.2 hti hc h2' h3' ho
              · cases hs
            · cases hs
          · cases hs
      · cases hs
    · rename_i hc
      split at hs
      · rename_i ty x h2 h3
        split at hs
        · rename_i el hu
          split at hs
          · rename_i zs sz hz hsz
            split at hs
            · rename_i hcc; cases hs
              have e' : (cClr sz zs x cx ol en ih).f fr l h k = some r := e
              unfold cClr at e'
              obtain ⟨_, e1⟩ := cnd_f e'
              exact p1_heap true hL hw (hdn rfl) hfn (by rw [hop]; show (3 : Nat) ≠ 0; omega) (fun _ => by rw [hop]; exact Nat.le_refl 3) (novp hop (by simp) (by simp)) e1 (lk x (by simp [opndsOf])) fun u h1' fl hf => xClr_ok hu hz hsz hcc.1 hcc.2.1 hcc.2.2 hc h2 h3 ho (hf rfl)
            · cases hs
          · cases hs
        · cases hs
      · cases hs
    · rename_i hc; cases hs
      have e' : (cMinmax true c.args.toList cx ol en ih).f fr l h k = some r := e
      rcases hxy : c.args.toList with _ | ⟨x, _ | ⟨y, _ | ⟨z, t⟩⟩⟩
      · rw [hxy] at e'; cases e'
      · rw [hxy] at e'; cases e'
      · rw [hxy] at e'
        exact p2_pure hL hw (hdn rfl) e' (lk x (by simp [opndsOf, hxy])) (lk y (by simp [opndsOf, hxy])) fun u v h1 => xMinmax_ok (mx := true) hc ho (Array.toList_inj.1 (by simpa using hxy))
      · rw [hxy] at e'; cases e'
    · rename_i hc; cases hs
      have e' : (cMinmax false c.args.toList cx ol en ih).f fr l h k = some r := e
      rcases hxy : c.args.toList with _ | ⟨x, _ | ⟨y, _ | ⟨z, t⟩⟩⟩
      · rw [hxy] at e'; cases e'
      · rw [hxy] at e'; cases e'
      · rw [hxy] at e'
        exact p2_pure hL hw (hdn rfl) e' (lk x (by simp [opndsOf, hxy])) (lk y (by simp [opndsOf, hxy])) fun u v h1 => xMinmax_ok (mx := false) hc ho (Array.toList_inj.1 (by simpa using hxy))
      · rw [hxy] at e'; cases e'
    · rename_i hc
      split at hs
      · rename_i ty d x h2 h3
        have h3' : c.args = #[d, x] := Array.toList_inj.1 (by simpa using h3)
        split at hs
        · rename_i el hu
          split at hs
          · rename_i sz hsz
            split at hs
            · rename_i hpos; cases hs
              exact p2_heap true hL hw (hdn rfl) hfn (by rw [hop]; show (3 : Nat) ≠ 0; omega) (fun _ => by rw [hop]; exact Nat.le_refl 3) (novp hop (by simp) (by simp)) e (lk d (by simp [opndsOf])) (lk x (by simp [opndsOf])) fun u v h1' fl hf => xCopy_ok hu hsz hpos hc h2 h3' ho (hf rfl)
            · cases hs; cases e
          · cases hs; cases e
        · cases hs; cases e
      · cases hs; cases e
    · cases hs
  · cases hs
theorem plan_okM (hcl : CallsOk P cx.cl) (hL : Lnk P cx ops o ol) (hw : Wf cx en l) (hfn : h.fl ≤ h.n) (e : (plan ol.op cx ol en ih).f fr l h k = some r) : OutM P cx ops o ol en fr l h ih k r := by
  by_cases hm : isMk ol.op = true
  · have hs := hL.op
    have hdn : isNew ol.op = false → ∀ t, ol.dst = some t → mem cx.PV t = false := fun hi t ht => by
      cases hm : mem cx.PV t with
      | false => rfl
      | true => rw [hL.pv t ht hm] at hi; cases hi
    obtain ⟨el0, sz0, zs0, len0, ps0, hop⟩ : ∃ el sz zs len ps, ol.op = .bslice el sz zs len ps := by
      cases ho : ol.op <;> rw [ho] at hm <;> first | (cases hm; done) | exact ⟨_, _, _, _, _, rfl⟩
    rw [hop] at e hs hdn
    unfold Go.Eng.strip at hs
    repeat' split at hs
    all_goals first | (cases hs; done) | skip
    all_goals first | (cases hs; exact cBslice_outM hL hw hfn (by assumption) (by assumption) (by assumption) (And.left (by assumption)) (And.left (And.right (by assumption))) (And.left (And.right (And.right (by assumption)))) (And.right (And.right (And.right (by assumption)))) (by assumption) hop (hdn rfl) e) | skip
  · obtain ⟨en', l', h', kd, sv, var, h1, h2, h3, h4, h5, h6, h7⟩ := plan_ok hcl hL hw hfn e
    exact ⟨en', l', h', kd, sv, var, h1, h2, h3, h4, h5, h6, h7, fun h => absurd h hm⟩
end
end
end Go.M
set_option maxHeartbeats 1000000
namespace Go.M
open Go
open Go.Eng (SOp SOper SCode)
noncomputable section
variable [Ctxt]
structure Bs where
  w0 : World
  fl : Nat
  V : Vw
  h : Hp
  w : World
  nt : Nat
structure SR (B : Bs) (V : Vw) (h : Hp) (w : World) (a : Act) (γ : Nat → Nat) (s : Sta) : Prop where
  mr : MR B.w0 V h w
  stp : Stp B.fl B.V B.h B.w V w
  tm : ∀ k sv, s.T k = some sv → SvR V γ (a.eval (.tmp k)) sv
  vr : ∀ p x, s.C p = some x → VarR B.w.heap.size V γ w p x
  inj : ∀ p q x y, s.C p = some x → s.C q = some y → p ≠ q → γ p ≠ γ q
  df : a.defers = []
  sz : a.tmps.size = B.nt
  b0 : B.w0.heap.size ≤ B.w.heap.size
theorem SR.le {B : Bs} {V : Vw} {h : Hp} {w : World} {a : Act} {γ : Nat → Nat} {s s' : Sta} (hs : SR B V h w a γ s) (hl : s'.le s) : SR B V h w a γ s' :=
  ⟨hs.mr, hs.stp, fun k sv hk => hs.tm k sv (hl.1 k sv hk), fun p x hp => hs.vr p x (hl.2 p x hp), fun p q x y hp hq => hs.inj p q x y (hl.2 p x hp) (hl.2 q y hq), hs.df, hs.sz, hs.b0⟩
theorem SvR.mono {V V' : Vw} {γ : Nat → Nat} {u : Value} {sv : SV} (h : Ext V V') (hs : SvR V γ u sv) : SvR V' γ u sv := by
  cases sv with
  | val x => exact den.mono h hs
  | ptr p off c => exact hs
theorem CtR.mono {V V' : Vw} {x : X} {cells : Array Value} (h : Ext V V') (hc : CtR V x cells) : CtR V' x cells := ⟨hc.1, by obtain ⟨u, h1, h2, h3⟩ := hc.2; exact ⟨u, h1.mono h, h2, h3⟩⟩
theorem MR.mono {w0 : World} {V : Vw} {h h' : Hp} {w : World} {fl : Nat} (hm : MR w0 V h w) (hl : HLe fl h h') (hf : ∀ b, V.S b → b < fl) : MR w0 V h' w := by
  have hg : ∀ b, V.S b → gH h' b = gH h b := fun b hb => hl.get b (hf b hb) (hm.nb b hb).1 (hm.nb b hb).2
  exact ⟨fun b hb => ⟨Nat.lt_of_lt_of_le (hm.nb b hb).1 hl.n, (hm.nb b hb).2⟩, fun b hb => by rw [hg b hb]; exact hm.bl b hb, fun b b' hb hb' h1 h2 => by rw [hg b hb] at h1; rw [hg b' hb'] at h2; exact hm.inj b b' hb hb' h1 h2, hm.nw, hm.old, hm.sz, hm.os, hm.tape, hm.output, hm.ar⟩
theorem BlkR.world {V : Vw} {w w' : World} {b : Nat} {x : X} (hw : w'.heap[V.ρ b]? = w.heap[V.ρ b]?) (hx : BlkR V w b x) : BlkR V w' b x := by
  unfold BlkR at hx ⊢
  rw [hw]; exact hx
theorem MR.setAt {w0 : World} {V : Vw} {h : Hp} {w w' : World} {g : Nat} {ob : Obj} (hm : MR w0 V h w) (hs : SetAt w w' g ob) (hsz : w.heap.size ≤ w'.heap.size) (h0 : w0.heap.size ≤ g) (hn : ∀ b, V.S b → V.ρ b ≠ g) : MR w0 V h w' :=
  ⟨hm.nb, fun b hb => (hm.bl b hb).world (hs.keep _ (hn b hb)), hm.inj, fun b hb => ⟨(hm.nw b hb).1, Nat.lt_of_lt_of_le (hm.nw b hb).2 hsz⟩, fun k hk => by rw [hs.keep k (by omega)]; exact hm.old k hk, Nat.le_trans hm.sz hsz, by rw [hs.os, hm.os], by rw [hs.tape, hm.tape], by rw [hs.output, hm.output], hm.ar⟩
theorem VarR.size {b1 : Nat} {V : Vw} {γ : Nat → Nat} {w : World} {p : Nat} {x : X} (h : VarR b1 V γ w p x) : γ p < w.heap.size := by
  obtain ⟨_, ⟨cells, e, h1, _⟩, _⟩ := h
  exact (Array.getElem?_eq_some_iff.1 h1).1
theorem VarR.stp {b1 fl : Nat} {V V' : Vw} {γ : Nat → Nat} {h : Hp} {w w' : World} {p : Nat} {x : X} (hv : VarR b1 V γ w p x) (hs : Stp fl V h w V' w') : VarR b1 V' γ w' p x := by
  have hsz := hv.size
  obtain ⟨h1, ⟨cells, e, h2, h3⟩, h4⟩ := hv
  refine ⟨h1, ⟨cells, e, by rw [hs.keep _ hsz fun b hb _ => h4 b hb]; exact h2, h3.mono hs.ext⟩, fun b hb => ?_⟩
  rcases hs.new b hb with hb | ⟨_, hb | ⟨b0, hb0, _, hb⟩⟩
  · rw [hs.ext.ρ b hb]; exact h4 b hb
  · omega
  · rw [hb]; exact h4 b0 hb0
theorem put_eval {a : Act} {t : Nat} {v : Value} (ht : t < a.tmps.size) (k : Nat) : (a.put (some t) v).eval (.tmp k) = if t = k then v else a.eval (.tmp k) := by
  show (a.tmps.setIfInBounds t v).getD k undef = if t = k then v else a.tmps.getD k undef
  simp only [Array.getD_eq_getD_getElem?, Array.getElem?_setIfInBounds]
  by_cases e : t = k
  · subst e; rw [if_pos rfl, if_pos ht, if_pos rfl]; rfl
  · rw [if_neg e, if_neg e]
theorem put_none {a : Act} {v : Value} (k : Nat) : (a.put none v).eval (.tmp k) = a.eval (.tmp k) := rfl
theorem put_size (a : Act) (dst : Option Nat) (v : Value) : (a.put dst v).tmps.size = a.tmps.size := by cases dst <;> simp [Act.put]
theorem put_defers (a : Act) (dst : Option Nat) (v : Value) : (a.put dst v).defers = a.defers := by cases dst <;> simp [Act.put]
theorem tm_put {V' : Vw} {γ' : Nat → Nat} {a : Act} {dst : Option Nat} {v : Value} {s : Sta} {sv : SV} {var : Option (Nat × X)} (hd : ∀ t, dst = some t → t < a.tmps.size) (h1 : ∀ k sv, dst ≠ some k → s.T k = some sv → SvR V' γ' (a.eval (.tmp k)) sv) (h2 : dst ≠ none → SvR V' γ' v sv) :
    ∀ k sv', (s.upd dst sv var).T k = some sv' → SvR V' γ' ((a.put dst v).eval (.tmp k)) sv' := fun k sv' hk => by
  have hk' : (if dst = some k then some sv else s.T k) = some sv' := hk
  cases dst with
  | none =>
    rw [if_neg (by simp)] at hk'
    rw [put_none]; exact h1 k sv' (by simp) hk'
  | some t =>
    rw [put_eval (hd t rfl)]
    by_cases e : t = k
    · subst e
      rw [if_pos rfl] at hk' ⊢
      cases hk'; exact h2 (by simp)
    · rw [if_neg (by simpa using e)] at hk'
      rw [if_neg e]; exact h1 k sv' (by simpa using e) hk'
variable {P : Program} {cx : Cx} {ops : Array Oper} {o : Oper}
theorem upd_none {s : Sta} {dst : Option Nat} {sv : SV} (p : Nat) : (s.upd dst sv none).C p = s.C p := rfl
theorem upd_some {s : Sta} {dst : Option Nat} {sv : SV} {q : Nat} {y : X} (p : Nat) : (s.upd dst sv (some (q, y))).C p = if q = p then some y else s.C p := rfl
theorem SR.step {B : Bs} {V : Vw} {h h' : Hp} {w : World} {a : Act} {γ : Nat → Nat} {s : Sta} {LT : List Nat} {kd : Kd} {sv : SV} {var : Option (Nat × X)} (hs : SR B V h w a γ s) (hb : HLe B.fl B.h h) (hf : B.fl = h.fl) (hfn : h.fl ≤ h.n)
    (hl : HLe (kdF h kd) h h') (hkf : ∀ fl, kd = .heap fl → fl = h.n ∨ fl = h.fl) (hdst : ∀ t, o.dst = some t → t < B.nt) (hnew : ∀ p, kd = .new p → o.dst = some p) (hst : ∀ p, kd = .store p → o.dst = none) (he : EffOk P ops o LT s h h' kd sv var) :
    GW P ops o a w fun v w' => ∃ V' γ', SR B V' h' w' (a.put o.dst v) γ' (s.upd o.dst sv var) := by
  have hd : ∀ t, o.dst = some t → t < a.tmps.size := fun t ht => by rw [hs.sz]; exact hdst t ht
  have hT : TOk s V γ a LT := fun k _ sv hk => hs.tm k sv hk
  have hC : ∀ LC, COk B.w.heap.size s V γ w LC := fun LC p _ x hp => hs.vr p x hp
  cases kd with
  | pure LC =>
    obtain ⟨rfl, he⟩ := he
    refine (he _ V γ w a hT (hC LC)).mono fun v w' ⟨h1, h2⟩ => ?_
    subst h1
    exact ⟨V, γ, hs.mr.mono hl (fun b hb => (hs.mr.nb b hb).1), hs.stp, tm_put hd (fun k sv _ hk => hs.tm k sv hk) (fun _ => h2), fun p x hp => hs.vr p x hp, fun p q x y hp hq => hs.inj p q x y hp hq, by rw [put_defers]; exact hs.df, by rw [put_size]; exact hs.sz, hs.b0⟩
  | heap fl =>
    obtain ⟨rfl, x, rfl, he⟩ := he
    refine (he B.w0 V γ w a hs.mr hT).mono fun v w' ⟨V', h1, h2, h3⟩ => ?_
    have hfl : B.fl ≤ fl := by rcases hkf fl rfl with e | e <;> omega
    exact ⟨V', γ, h1, hs.stp.trans hb.n (h3.weak hfl), tm_put hd (fun k sv _ hk => (hs.tm k sv hk).mono h3.ext) (fun _ => h2), fun p x hp => (hs.vr p x hp).stp h3, fun p q x y hp hq => hs.inj p q x y hp hq, by rw [put_defers]; exact hs.df, by rw [put_size]; exact hs.sz, hs.b0⟩
  | store p =>
    obtain ⟨rfl, x, y, rfl, hy, he⟩ := he
    have hpv := hs.vr p y hy
    refine (he _ V γ w a hT (hC _)).mono fun v w' ⟨cells, e, h1, h2, h3⟩ => ?_
    refine ⟨V, γ, hs.mr.setAt h1 (by omega) (Nat.le_trans hs.b0 hpv.1) hpv.2.2, ?_, ?_, fun q z hq => ?_, fun q q' z z' hq hq' hne => ?_, by rw [put_defers]; exact hs.df, by rw [put_size]; exact hs.sz, hs.b0⟩
    · exact ⟨hs.stp.ext, hs.stp.new, fun g hg hk => by rw [h1.keep g (by have := hpv.1; omega)]; exact hs.stp.keep g hg hk, by rw [h2]; exact hs.stp.size⟩
    · exact tm_put hd (fun k sv _ hk => hs.tm k sv hk) (fun hne => absurd (hst p rfl) hne)
    · rw [upd_some] at hq
      by_cases e2 : p = q
      · subst e2
        rw [if_pos rfl] at hq; cases hq
        exact ⟨hpv.1, ⟨cells, e, h1.get, h3⟩, hpv.2.2⟩
      · rw [if_neg e2] at hq
        obtain ⟨g1, ⟨c2, e3, g2, g3⟩, g4⟩ := hs.vr q z hq
        exact ⟨g1, ⟨c2, e3, by rw [h1.keep _ (fun e => hs.inj q p z y hq hy (Ne.symm e2) e)]; exact g2, g3⟩, g4⟩
    · rw [upd_some] at hq hq'
      have key : ∀ {q z}, (if p = q then some x else s.C q) = some z → ∃ z', s.C q = some z' := fun {q z} hq => by
        by_cases e2 : p = q
        · subst e2; exact ⟨y, hy⟩
        · rw [if_neg e2] at hq; exact ⟨z, hq⟩
      obtain ⟨z1, hz1⟩ := key hq
      obtain ⟨z2, hz2⟩ := key hq'
      exact hs.inj q q' z1 z2 hz1 hz2 hne
  | new p =>
    obtain ⟨rfl, rfl, hno, x, rfl, he⟩ := he
    have hop := hnew p rfl
    refine (he V γ w a hT).mono fun v w' ⟨h0, cells, e, h1, h2, h3⟩ => ?_
    subst h0
    have hlt : ∀ b, V.S b → V.ρ b ≠ w.heap.size := fun b hb => by have := (hs.mr.nw b hb).2; omega
    refine ⟨V, fun q => if q = p then w.heap.size else γ q, hs.mr.setAt h1 (by omega) hs.mr.sz hlt, ?_, ?_, fun q z hq => ?_, fun q q' z z' hq hq' hne => ?_, by rw [put_defers]; exact hs.df, by rw [put_size]; exact hs.sz, hs.b0⟩
    · exact ⟨hs.stp.ext, hs.stp.new, fun g hg hk => by rw [h1.keep g (by have := hs.stp.size; omega)]; exact hs.stp.keep g hg hk, by have := hs.stp.size; omega⟩
    · refine tm_put hd (fun k sv hk hsk => ?_) (fun _ => ?_)
      · have hkp : k ≠ p := fun e => hk (by rw [hop, e])
        have := hs.tm k sv hsk
        cases sv with
        | val z => exact this
        | ptr q off c =>
          have hqp : q ≠ p := fun e => hno k off c hkp (by rw [← e]; exact hsk)
          intro hc
          show _ = Value.pointer (some ⟨if q = p then w.heap.size else γ q, off, none⟩)
          rw [if_neg hqp]; exact this hc
      · intro _
        show _ = Value.pointer (some ⟨if p = p then w.heap.size else γ p, 0, none⟩)
        rw [if_pos rfl]
    · rw [upd_some] at hq
      by_cases e2 : p = q
      · subst e2
        rw [if_pos rfl] at hq; cases hq
        refine ⟨?_, ?_, ?_⟩ <;> simp only [if_true]
        · exact hs.stp.size
        · exact ⟨cells, e, h1.get, h3⟩
        · exact hlt
      · rw [if_neg e2] at hq
        have hv := hs.vr q z hq
        have hsz := hv.size
        obtain ⟨g1, ⟨c2, e3, g2, g3⟩, g4⟩ := hv
        refine ⟨?_, ?_, ?_⟩ <;> simp only [if_neg (Ne.symm e2)]
        · exact g1
        · exact ⟨c2, e3, by rw [h1.keep _ (by omega)]; exact g2, g3⟩
        · exact g4
    · rw [upd_some] at hq hq'
      have key : ∀ {q z}, q ≠ p → (if p = q then some x else s.C q) = some z → s.C q = some z := fun {q z} hn hq => by rw [if_neg (Ne.symm hn)] at hq; exact hq
      show (if q = p then w.heap.size else γ q) ≠ (if q' = p then w.heap.size else γ q')
      by_cases e1 : q = p
      · have e2 : q' ≠ p := fun e => hne (e1.trans e.symm)
        rw [if_pos e1, if_neg e2]
        have := (hs.vr q' z' (key e2 hq')).size
        omega
      · by_cases e2 : q' = p
        · rw [if_neg e1, if_pos e2]
          have := (hs.vr q z (key e1 hq)).size
          omega
        · rw [if_neg e1, if_neg e2]
          exact hs.inj q q' z z' (key e1 hq) (key e2 hq') hne
theorem wrB_some {n : Nat} {fr : FX} {l : Loc} : ∀ {ws : List (Nat × D)} {fr0 : FX} {kk : FX → R} {r}, (∀ q ∈ ws, q.1 < 64) → (ws.Pairwise fun a b => a.1 ≠ b.1) → (wrB n ws).f fr l fr0 kk = some r →
    ∃ fr1, kk fr1 = some r ∧ ∀ j, j < 64 → slotX fr1 j = match lk ws j with
      | some d => (acD n d).g fr l
      | none => slotX fr0 j
  | [], fr0, kk, r, _, _, e => ⟨fr0, e, fun j _ => rfl⟩
  | (i, d) :: ws, fr0, kk, r, h64, hn, e => by
    have e1 : (putS i).f fr0 ((acD n d).g fr l) (fun fr' => (wrB n ws).f fr l fr' kk) = some r := e
    rw [putS_eq (h64 _ (List.mem_cons_self ..))] at e1
    rw [List.pairwise_cons] at hn
    obtain ⟨fr1, h1, h2⟩ := wrB_some (fun q hq => h64 q (List.mem_cons_of_mem _ hq)) hn.2 e1
    refine ⟨fr1, h1, fun j hj => ?_⟩
    rw [h2 j hj, lk_cons]
    have hi := h64 _ (List.mem_cons_self ..)
    by_cases e2 : i = j
    · subst e2
      rw [if_pos rfl]
      have : lk ws i = none := by
        cases e3 : lk ws i with
        | none => rfl
        | some d' =>
          have hm := hn.1 (i, d') (lk_mem e3)
          exact absurd rfl hm
      rw [this]
      exact tr3_ok.self _ _ _ _ (samB_refl _ _)
    · rw [if_neg e2]
      cases lk ws j with
      | some d' => rfl
      | none => exact tr3_ok.other _ _ _ _ fun hs => e2 (samB_eq hs hi hj)
def wrG (cx : Cx) (en : En) : List Nat → Nat → List (Nat × D)
  | [], _ => []
  | k :: G, j => match cnd (mem cx.PV k) (lk en.C k) (lk en.T k) with
    | none => wrG cx en G (j + 1)
    | some d => if isSlot d j = true then wrG cx en G (j + 1) else (j, d) :: wrG cx en G (j + 1)
theorem wrs_eq (cx : Cx) (en : En) : wrs cx en = wrG cx en cx.G 0 := by
  have : ∀ (G : List Nat) (j : Nat), (@List.rec Nat (fun _ => Nat → List (Nat × D)) (fun _ => []) (fun k _ ih j => oD (cnd (mem cx.PV k) (lk en.C k) (lk en.T k)) (ih (Nat.succ j)) fun d => cnd (isSlot d j) (ih (Nat.succ j)) ((j, d) :: ih (Nat.succ j))) G : Nat → List (Nat × D)) j = wrG cx en G j := by
    intro G
    induction G with
    | nil => intro j; rfl
    | cons k G ih =>
      intro j
      show oD (cnd (mem cx.PV k) (lk en.C k) (lk en.T k)) _ _ = _
      unfold wrG
      cases cnd (mem cx.PV k) (lk en.C k) (lk en.T k) with
      | none => exact ih (j + 1)
      | some d =>
        show cnd (isSlot d j) _ _ = if isSlot d j = true then _ else _
        rw [cnd_if]
        split
        · exact ih (j + 1)
        · exact congrArg _ (ih (j + 1))
  exact this cx.G 0
theorem wrG_ge (cx : Cx) (en : En) : ∀ (G : List Nat) (j : Nat) (q : Nat × D), q ∈ wrG cx en G j → j ≤ q.1 ∧ q.1 < j + G.length
  | [], j, q, h => by simp [wrG] at h
  | k :: G, j, q, h => by
    unfold wrG at h
    split at h
    · have := wrG_ge cx en G (j + 1) q h; simp only [List.length_cons]; omega
    · split at h
      · have := wrG_ge cx en G (j + 1) q h; simp only [List.length_cons]; omega
      · rcases List.mem_cons.1 h with rfl | h
        · simp
        · have := wrG_ge cx en G (j + 1) q h; simp only [List.length_cons]; omega
theorem wrG_nd (cx : Cx) (en : En) : ∀ (G : List Nat) (j : Nat), (wrG cx en G j).Pairwise fun a b => a.1 ≠ b.1
  | [], j => List.Pairwise.nil
  | k :: G, j => by
    unfold wrG
    split
    · exact wrG_nd cx en G (j + 1)
    · split
      · exact wrG_nd cx en G (j + 1)
      · exact List.pairwise_cons.2 ⟨fun q hq => by have := (wrG_ge cx en G (j + 1) q hq).1; simp only; omega, wrG_nd cx en G (j + 1)⟩
theorem wrG_get (cx : Cx) (en : En) : ∀ (G : List Nat) (j i k : Nat), G[i]? = some k → lk (wrG cx en G j) (j + i) = match cnd (mem cx.PV k) (lk en.C k) (lk en.T k) with
    | none => none
    | some d => if isSlot d (j + i) = true then none else some d
  | [], j, i, k, h => by simp at h
  | k0 :: G, j, i, k, h => by
    have hout : ∀ j' m, m < j' → lk (wrG cx en G j') m = none := fun j' m hm => by
      cases e : lk (wrG cx en G j') m with
      | none => rfl
      | some d => have := (wrG_ge cx en G j' _ (lk_mem e)).1; simp only at this; omega
    cases i with
    | zero =>
      simp at h; subst h
      show lk (wrG cx en (k0 :: G) j) j = match cnd (mem cx.PV k0) (lk en.C k0) (lk en.T k0) with
        | none => none
        | some d => if isSlot d j = true then none else some d
      unfold wrG
      cases hd : cnd (mem cx.PV k0) (lk en.C k0) (lk en.T k0) with
      | none => exact hout _ _ (Nat.lt_succ_self _)
      | some d =>
        simp only
        by_cases hs : isSlot d j = true
        · rw [if_pos hs, if_pos hs]; exact hout _ _ (Nat.lt_succ_self _)
        · rw [if_neg hs, if_neg hs, lk_cons, if_pos rfl]
    | succ i =>
      have h' : G[i]? = some k := by simpa using h
      have ih := wrG_get cx en G (j + 1) i k h'
      rw [show j + 1 + i = j + (i + 1) from by omega] at ih
      unfold wrG
      split
      · exact ih
      · split
        · exact ih
        · rw [lk_cons, if_neg (by omega)]; exact ih
theorem endR_some {cx : Cx} {en : En} {fr : FX} {l : Loc} {h : Hp} {k : Kc} {r} {e : Nat} (hG : cx.G.length ≤ 64) (hw : Wf cx en l) (he : (endR cx e en).f fr l h k = some r) : ∃ fr', k e fr' h = some r ∧ (sta cx en0 fr' []).le (sta cx en fr l) := by
  have he' : (wrB en.n (wrs cx en)).f fr l fr (fun fr => k e fr h) = some r := he
  rw [wrs_eq] at he'
  obtain ⟨fr', h1, h2⟩ := wrB_some (fun q hq => by have := (wrG_ge cx en cx.G 0 q hq).2; omega) (wrG_nd cx en cx.G 0) he'
  have hslot : ∀ k j, ix cx.G k = some j → slotX fr' j = match cnd (mem cx.PV k) (lk en.C k) (lk en.T k) with
      | none => slotX fr j
      | some d => vD en fr l d := fun k j hj => by
    have hgj := ix_get hj
    have hlt : j < 64 := Nat.lt_of_lt_of_le (List.getElem?_eq_some_iff.1 hgj).1 hG
    have := wrG_get cx en cx.G 0 j k hgj
    rw [Nat.zero_add] at this
    rw [h2 j hlt, this]
    cases cnd (mem cx.PV k) (lk en.C k) (lk en.T k) with
    | none => rfl
    | some d =>
      simp only
      by_cases hs : isSlot d j = true
      · rw [if_pos hs]
        cases d with
        | loc p => cases hs
        | con x => cases hs
        | slot i =>
          have : i = j := beqT hs
          subst this; rfl
      · rw [if_neg hs]
  have hC : ∀ p x, staC cx en0 fr' [] p = some x → staC cx en fr l p = some x := fun p x hx => by
    have hx' : (if mem cx.PV p = true then match ix cx.G p with
      | some j => if (slotX fr' j).n = 14 then none else some (slotX fr' j)
      | none => none
      else none) = some x := hx
    split at hx'
    · rename_i hpv
      cases hj : ix cx.G p with
      | none => rw [hj] at hx'; cases hx'
      | some j =>
        rw [hj] at hx'
        have := hslot p j hj
        rw [cnd_if, if_pos hpv] at this
        simp only at hx'
        unfold staC
        cases e2 : lk en.C p with
        | some d =>
          rw [e2] at this
          simp only at this ⊢
          rw [this] at hx'
          split at hx'
          · cases hx'
          · exact hx'
        | none =>
          rw [e2] at this
          simp only [hpv, if_true, hj] at this ⊢
          rw [this] at hx'; exact hx'
    · cases hx'
  refine ⟨fr', h1, fun k v hk => ?_, hC⟩
  have hk' : (if mem cx.PV k = true then (match staC cx en0 fr' [] k with
      | some _ => some (SV.ptr k 0 true)
      | none => none)
    else match ix cx.G k with
        | some j => some (.val (slotX fr' j))
        | none => none) = some v := hk
  show staT cx en fr l k = some v
  unfold staT
  split at hk'
  · rename_i hpv
    have hTn : lk en.T k = none := by
      cases e2 : lk en.T k with
      | none => rfl
      | some d => rw [(hw.T k d e2).2.1] at hpv; cases hpv
    rw [hTn]
    simp only [hpv, if_true]
    cases e3 : staC cx en0 fr' [] k with
    | none => rw [e3] at hk'; cases hk'
    | some x =>
      rw [e3] at hk'
      rw [hC k x e3]; exact hk'
  · rename_i hpv
    cases hj : ix cx.G k with
    | none => rw [hj] at hk'; cases hk'
    | some j =>
      rw [hj] at hk'
      simp only [Option.some.injEq] at hk'
      have := hslot k j hj
      rw [cnd_if, if_neg hpv] at this
      cases e2 : lk en.T k with
      | some d =>
        rw [e2] at this
        simp only at this ⊢
        rw [← hk', this]
      | none =>
        rw [e2] at this
        simp only [hpv, if_false] at this ⊢
        have hA : lk en.A k = none := by
          cases e4 : lk en.A k with
          | none => rfl
          | some a =>
            have := (hw.A k a e4).2.1
            rw [ix_none this] at hj; cases hj
        rw [hA]
        simp only
        rw [← hk', this]; rfl
end
end Go.M
