/-
  The engine, part 6: code over abstract states is sound.
  No condition: lemmas.
-/
import Derived.Test.YteonhcjaekodkaaEng4
import Derived.Test.YteonhcjaekodkaaEng3n
import Derived.WalkSpells
set_option linter.all false
namespace Go.Eng
open Go

def okDst (nt : Nat) : List SOper → Bool
  | [] => true
  | o :: l => (match o.dst with
    | some d => decide (d < nt)
    | none => true) && okDst nt l

def okCode (nt : Nat) : SCode → Bool
  | .region ops _ => okDst nt ops
  | .seq a b => okCode nt a && okCode nt b
  | .cond _ x y => okCode nt x && okCode nt y
  | .block _ c => okCode nt c
  | .loop c => okCode nt c
  | _ => true

section
variable {P : Program} {C : Ctx} {ρ : Nat → Loc} {U : Nat → Prop} {h : List (Nat × Ob)} {w : World} {nm : Nat} {t : List (Nat × AV)} {a : Act} {o : Oper}

theorem Tm.put (ht : Tm C ρ U w t a) {dst : Option Nat} {x : AV} {v : Value} (hv : VR w (okc C ρ w) ρ U x v) (hd : ∀ d, dst = some d → d < a.tmps.size) : Tm C ρ U w (putA t dst x) (a.put dst v) := by
  intro k y hk
  cases dst with
  | none => exact ht k y hk
  | some d =>
    have hlt := hd d rfl
    simp only [putA, get] at hk
    by_cases e : d = k
    · subst e
      rw [if_pos rfl] at hk
      cases hk
      exact ⟨v, by simp [Act.put, hlt], hv⟩
    · rw [if_neg e] at hk
      obtain ⟨u, h1, h2⟩ := ht k y hk
      exact ⟨u, by simp only [Act.put, Array.getElem?_setIfInBounds]; rw [if_neg e]; exact h1, h2⟩

theorem put_size (a : Act) (dst : Option Nat) (v : Value) : (a.put dst v).tmps.size = a.tmps.size := by
  cases dst <;> simp [Act.put]
theorem put_defers (a : Act) (dst : Option Nat) (v : Value) : (a.put dst v).defers = a.defers := by
  cases dst <;> simp [Act.put]

/-- The state of a walk. -/
structure Sim (C : Ctx) (ρ : Nat → Loc) (U : Nat → Prop) (t : List (Nat × AV)) (h : List (Nat × Ob)) (a : Act) (w : World) : Prop where
  hr : HR C ρ U h w
  tm : Tm C ρ U w t a
  defers : a.defers = []
  sz : a.tmps.size = C.nt

theorem eval_getD (k : Nat) (hk : k < a.tmps.size) : a.eval (.tmp k) = a.tmps[k] := by
  simp [Act.eval, Array.getD, hk]

theorem execCall {c : Call} {f : Operand} {g : FuncId} {vs : Array Value} (hc : c.callee = .value f) (hf : a.eval f = .func (.func g) #[] vs) (ho : o.op = .call c) (hE : Enters P g) :
    (execOp a.eval o).run P w = .ok (.enter g (c.args.map a.eval ++ vs)) w := by
  obtain ⟨fn, h1, h2, h3⟩ := hE
  simp only [execOp, ho, resolve, hc, Deferred.ofValue, hf, Sem.run_bind, Sem.run_pure, Result.andThen_ok, invoke, callFunc, run_program, h1, h2, h3, Bool.false_eq_true, if_false, Array.empty_append]

theorem VL.append {ok : Nat → Prop} {cs ds : List AV} {us vs : Array Value} (h1 : VL w ok ρ U cs us) (h2 : VL w ok ρ U ds vs) : VL w ok ρ U (cs ++ ds) (us ++ vs) := by
  refine ⟨by simp [h1.1, h2.1], fun i c u hi hu => ?_⟩
  rw [List.getElem?_append] at hi
  rw [Array.getElem?_append] at hu
  have := h1.1
  split at hi
  · rw [if_pos (by omega)] at hu
    exact h1.2 i c u hi hu
  · rw [if_neg (by omega)] at hu
    rw [← this] at hu
    exact h2.2 _ c u hi hu

theorem strip_call {f : Operand} {args : List Operand} (hs : strip P o = some (.call f args)) : ∃ c, o.op = .call c ∧ c.callee = .value f ∧ c.args.toList = args := by
  unfold strip at hs
  split at hs <;> (repeat' split at hs) <;> first
    | (cases hs; done)
    | (simp at hs; done)
    | skip
  all_goals (simp only [Option.some.injEq, SOp.call.injEq] at hs; obtain ⟨rfl, rfl⟩ := hs; exact ⟨_, by assumption, by assumption, rfl⟩)

theorem strip_isnil {neg : Bool} {x : Operand} (hs : strip P o = some (.isnil neg x)) : ∃ t e n c t', o.op = .binOp (if neg then .neq else .eql) t x (.const (.slice none n c)) t' ∧ P.underlying t = some (.slice e) := by
  unfold strip at hs
  split at hs <;> (repeat' split at hs) <;> first
    | (cases hs; done)
    | (simp at hs; done)
    | skip
  all_goals (simp only [Option.some.injEq, SOp.isnil.injEq] at hs; obtain ⟨rfl, rfl⟩ := hs; exact ⟨_, _, _, _, _, by assumption, by assumption⟩)

theorem run_isnil {neg : Bool} {x : Operand} {ty e ty' : TypeId} {n c : Nat} {b : Option Addr} {n' c' : Nat} (hty : P.underlying ty = some (.slice e)) (ho : o.op = .binOp (if neg then .neq else .eql) ty x (.const (.slice none n c)) ty')
    (hx : a.eval x = .slice b n' c') : (execOp a.eval o).run P w = .ok (.value (.bool (if neg then !b.isNone else b.isNone))) w := by
  have e1 : a.eval (.const (.slice none n c)) = .slice none n c := rfl
  cases neg
  · simp only [Bool.false_eq_true, if_false] at ho ⊢
    have e2 : eqGuard .eql ty x (.const (.slice none n c)) (.slice b n' c') (.slice none n c) = pure () := rfl
    simp only [execOp, ho, hx, e1, e2, Sem.run_bind, Sem.run_pure, Result.andThen_ok, Lib.run_eql_slice_nil w ty e b n' c' n c hty]
  · simp only [if_true] at ho ⊢
    have e2 : eqGuard .neq ty x (.const (.slice none n c)) (.slice b n' c') (.slice none n c) = pure () := rfl
    simp only [execOp, ho, hx, e1, e2, Sem.run_bind, Sem.run_pure, Result.andThen_ok, run_neq_slice_nil_any w ty e b n' c' n c hty]

/-- One operation. -/
theorem wpOper_sound {so : SOp} {gd : Option (Nat × Bool)} {af : List Nat} {Q : List (Nat × AV) → List (Nat × Ob) → Prop} {K : Exit → Act → World → Prop} {next : Act → World → Prop} (hs : strip P o = some so) (hS : Sim C ρ U t h a w) (hfr : ∀ b, U b → ¬ (nm ≤ b ∧ b < nm + 8)) (hd : ∀ d, o.dst = some d → d < C.nt)
    (hw : wpOper P nm ⟨o.dst, so, gd, af⟩ t h Q) (hn : ∀ t' h' a' w' ρ' U', Sim C ρ' U' t' h' a' w' → (∀ b, U' b → U b ∨ (nm ≤ b ∧ b < nm + 8)) → Q t' h' → next a' w') : o.wp P a w next K := by
  have hd' : ∀ d, o.dst = some d → d < a.tmps.size := fun d h => by rw [hS.sz]; exact hd d h
  by_cases hcall : ∃ f args, so = .call f args
  · obtain ⟨f, args, rfl⟩ := hcall
    simp only [wpOper] at hw
    unfold onF at hw
    split at hw
    · rename_i g caps xs hf hxs
      obtain ⟨hE, hW⟩ := hw
      obtain ⟨c, hop, hc, rfl⟩ := strip_call hs
      obtain ⟨vs, hfv, hcaps⟩ := (ev_ok hS.tm hf).fn_inv
      have hargs := evL_ok hS.tm hxs
      have hvl := hargs.append hcaps
      unfold Oper.wp
      rw [execCall hc hfv hop hE]
      rw [Oper.upon_enter]
      have e0 : c.args.map a.eval = (c.args.toList.map a.eval).toArray := by apply Array.ext'; simp
      rw [e0]
      refine (hW C ρ U w _ hS.hr hfr hvl).mono fun e w' hpost => ?_
      obtain ⟨v, r, h', ρ', U', rfl, hr', hv', hk, hU, hQ⟩ := hpost
      refine hn _ _ _ _ ρ' U' ⟨hr', Tm.put (fun k x hx => ?_) hv' hd', by rw [put_defers]; exact hS.defers, by rw [put_size]; exact hS.sz⟩ hU hQ
      · obtain ⟨u, h1, h2⟩ := hS.tm k x hx
        exact ⟨u, h1, hk _ _ h2⟩
    · exact hw.elim
  · by_cases hnil : ∃ neg x, so = .isnil neg x
    · obtain ⟨neg, x, rfl⟩ := hnil
      obtain ⟨ty, e, n, c, ty', ho, hty⟩ := strip_isnil hs
      simp only [wpOper, onNil] at hw
      have go1 : ∀ b n' c', a.eval x = .slice b n' c' → Q (putA t o.dst (.v (.bool (if neg then !b.isNone else b.isNone)))) h → o.wp P a w next K := by
        intro b n' c' hx hQ
        unfold Oper.wp
        rw [run_isnil hty ho hx, Oper.upon_value]
        exact hn _ _ _ _ ρ U ⟨hS.hr, Tm.put hS.tm (.p (.v _)) hd', by rw [put_defers]; exact hS.defers, by rw [put_size]; exact hS.sz⟩ (fun b hb => .inl hb) hQ
      split at hw
      · rename_i b hk
        unfold nilK at hk
        split at hk
        · rename_i n' c' hx
          cases hk
          exact go1 none n' c' (ev_ok hS.tm hx).v_inv hw
        · rename_i sz y ys hx
          cases hk
          have hv := (ev_ok hS.tm hx).sl_inv
          generalize hu : a.eval x = u at hv
          cases hv
          exact go1 (some _) _ _ hu hw
        · cases hk
        · cases hk
        · cases hk
      · rename_i hk
        have hsl : ∃ b n' c', a.eval x = .slice b n' c' := by
          unfold nilK at hk
          split at hk
          · cases hk
          · cases hk
          · rename_i sz hx
            have hv := (ev_ok hS.tm hx).sl_inv
            generalize hu : a.eval x = u at hv
            cases hv <;> exact ⟨_, _, _, rfl⟩
          · rename_i hx
            obtain ⟨hu, ⟨ad, len', cap', hsl⟩, hown⟩ := (ev_ok hS.tm hx).own_inv
            exact ⟨_, _, _, hsl⟩
          · cases hk
        obtain ⟨b, n', c', hx⟩ := hsl
        refine go1 b n' c' hx ?_
        cases hb : b.isNone
        · simpa [hb] using hw.2
        · simpa [hb] using hw.1
      · exact hw.elim
    · have hw' : onW nm t h so (eff nm t h so) fun t h e => Q (putA t o.dst e.val) (e.upd ++ h) := by
        cases so <;> first | exact hw | exact absurd ⟨_, _, rfl⟩ hcall | exact absurd ⟨_, _, rfl⟩ hnil
      have main : ∀ (t : List (Nat × AV)) (h : List (Nat × Ob)) (ρ : Nat → Loc) (U : Nat → Prop) (e : E), Sim C ρ U t h a w → (∀ b, U b → ¬ (nm ≤ b ∧ b < nm + 8)) → eff nm t h so = some e → e.pre → Q (putA t o.dst e.val) (e.upd ++ h) →
          (∀ t' h' a' w' ρ' U', Sim C ρ' U' t' h' a' w' → (∀ b, U' b → U b ∨ (nm ≤ b ∧ b < nm + 8)) → Q t' h' → next a' w') → o.wp P a w next K := by
        intro t h ρ U e hS hfr he hp hQ hn
        obtain ⟨v, w', ρ', U', hrun, hr', hv', hk, hU⟩ := eff_sound hs hS.hr hS.tm (fun hu => hfr _ hu ⟨Nat.le_refl _, by omega⟩) he hp
        have hsim : Sim C ρ' U' (putA t o.dst e.val) (e.upd ++ h) (a.put o.dst v) w' :=
          ⟨hr', Tm.put (fun k x hx => by
            obtain ⟨u, h1, h2⟩ := hS.tm k x hx
            exact ⟨u, h1, hk _ _ h2⟩) hv' hd', by rw [put_defers]; exact hS.defers, by rw [put_size]; exact hS.sz⟩
        have hU' : ∀ b, U' b → U b ∨ (nm ≤ b ∧ b < nm + 8) := fun b hb => by
          rcases hU b hb with h1 | h1
          · exact .inl h1
          · exact .inr (by omega)
        unfold Oper.wp
        rcases hrun with hrun | ⟨rfl, hrun⟩
        · rw [hrun, Oper.upon_value]
          exact hn _ _ _ _ ρ' U' hsim hU' hQ
        · rw [hrun, Oper.upon_skip]
          exact hn _ _ _ _ ρ' U' hsim hU' hQ
      unfold onW at hw'
      split at hw'
      · rename_i e he
        exact main t h ρ U e hS hfr he hw'.1 hw'.2 hn
      · obtain ⟨t', h', hW, hE⟩ := hw'
        unfold onE at hE
        split at hE
        · rename_i e he
          obtain ⟨ρ', U', hR, hU'⟩ := hW C ρ U a w ⟨hS.hr, hS.defers, hS.sz, hS.tm⟩
          exact main t' h' ρ' U' e ⟨hR.hr, hR.tm, hR.defers, hR.sz⟩ (fun b hb => hfr b (hU' b hb)) he hE.1 hE.2 fun t'' h'' a'' w'' ρ'' U'' hS'' hU'' hQ'' =>
            hn t'' h'' a'' w'' ρ'' U'' hS'' (fun b hb => (hU'' b hb).imp (hU' b) id) hQ''
        · exact hE.elim

theorem stripOper_some {ops : Array Oper} {draw : Bool} {so : SOper} (hs : stripOper P ops draw o = some so) :
    strip P o = some so.op ∧ so.dst = o.dst ∧ (so.guard = none ↔ o.guard = none) ∧ ∀ g wt, so.guard = some (g, wt) → ∃ j, o.guard = some (j, wt) ∧ ((ops[j]?).bind (·.dst)) = some g := by
  unfold stripOper at hs
  split at hs
  · rename_i sp hsp
    split at hs
    · rename_i hg
      cases hs
      exact ⟨hsp, rfl, by simp [hg], fun g wt e => by simp at e⟩
    · rename_i j wt hg
      split at hs
      · rename_i g hgd
        cases hs
        refine ⟨hsp, rfl, by simp [hg], fun g' wt' e => ?_⟩
        simp only [Option.some.injEq, Prod.mk.injEq] at e
        obtain ⟨rfl, rfl⟩ := e
        exact ⟨j, hg, hgd⟩
      · cases hs
  · cases hs

theorem stripOps_cons {ops : Array Oper} {draw : Bool} {l : List Oper} {sl : List SOper} (hs : stripOps P ops draw (o :: l) = some sl) :
    ∃ so sl', sl = so :: sl' ∧ stripOper P ops draw o = some so ∧ stripOps P ops draw l = some sl' := by
  unfold stripOps at hs
  split at hs
  · rename_i so hso
    split at hs
    · rename_i sl' hsl
      cases hs
      exact ⟨so, sl', rfl, hso, hsl⟩
    · cases hs
  · cases hs

/-- What the guard says. -/
theorem wanted_bool {ops : Array Oper} {j g : Nat} {wt b : Bool} (hg : o.guard = some (j, wt)) (hd : ((ops[j]?).bind (·.dst)) = some g) (hv : a.tmps[g]? = some (.bool b)) :
    Region.wanted o (yielded ops a.tmps) = (b == wt) := by
  simp only [Region.wanted, hg, yielded, hd, Option.bind_some, hv]
  cases b <;> cases wt <;> rfl
theorem wanted_tuple {ops : Array Oper} {j g : Nat} {wt : Bool} {xs : Array Value} (hg : o.guard = some (j, wt)) (hd : ((ops[j]?).bind (·.dst)) = some g) (hv : a.tmps[g]? = some (.tuple xs)) :
    Region.wanted o (yielded ops a.tmps) = false := by
  simp only [Region.wanted, hg, yielded, hd, Option.bind_some, hv]
  cases wt <;> rfl

theorem Sim.skip (hS : Sim C ρ U t h a w) {dst : Option Nat} (hd : ∀ d, dst = some d → d < C.nt) : Sim C ρ U (putA t dst (.v undef)) h (a.put dst undef) w :=
  ⟨hS.hr, Tm.put hS.tm (.p (.v _)) (fun d h => by rw [hS.sz]; exact hd d h), by rw [put_defers]; exact hS.defers, by rw [put_size]; exact hS.sz⟩

theorem wpOps_sound {ops : Array Oper} {draw : Bool} {K : Exit → Act → World → Prop} {Q : List (Nat × AV) → List (Nat × Ob) → Prop} (l : List Oper) :
    ∀ (sl : List SOper) (nm : Nat) (t : List (Nat × AV)) (h : List (Nat × Ob)) (a : Act) (w : World) (ρ : Nat → Loc) (U : Nat → Prop),
      stripOps P ops draw l = some sl → okDst C.nt sl = true → Sim C ρ U t h a w → (∀ b, U b → b < nm) → wpOps P nm sl t h Q →
      (∀ t' h' a' w' ρ' U', Sim C ρ' U' t' h' a' w' → (∀ b, U' b → b < nm + 8 * sl.length) → Q t' h' → K .normal a' w') → wpList P ops K l a w := by
  induction l with
  | nil =>
    intro sl nm t h a w ρ U hs _ hS hU hw hn
    simp only [stripOps, Option.some.injEq] at hs
    subst hs
    exact hn t h a w ρ U hS (fun b hb => by have := hU b hb; simp; omega) hw
  | cons o l ih =>
    intro sl nm t h a w ρ U hs hd hS hU hw hn
    obtain ⟨so, sl', rfl, hso, hsl⟩ := stripOps_cons hs
    obtain ⟨h1, h2, h3, h4⟩ := stripOper_some hso
    simp only [okDst, Bool.and_eq_true] at hd
    have hdst : ∀ d, o.dst = some d → d < C.nt := fun d e => by
      have := hd.1
      rw [h2, e] at this
      simpa using this
    have hfr : ∀ b, U b → ¬ (nm ≤ b ∧ b < nm + 8) := fun b hb => by have := hU b hb; omega
    have hrest : ∀ t' h' a' w' ρ' U', Sim C ρ' U' t' h' a' w' → (∀ b, U' b → U b ∨ (nm ≤ b ∧ b < nm + 8)) → wpOps P (nm + 8) sl' t' h' Q → wpList P ops K l a' w' :=
      fun t' h' a' w' ρ' U' hS' hU' hw' => ih sl' (nm + 8) t' h' a' w' ρ' U' hsl hd.2 hS' (fun b hb => by
        rcases hU' b hb with e | e
        · have := hU b e; omega
        · omega) hw' fun t'' h'' a'' w'' ρ'' U'' hS'' hU'' hQ => hn t'' h'' a'' w'' ρ'' U'' hS'' (fun b hb => by have := hU'' b hb; simp only [List.length_cons]; omega) hQ
    have hdo : ∀ {gd af}, wpOper P nm ⟨o.dst, so.op, gd, af⟩ t h (fun t' h' => wpOps P (nm + 8) sl' t' h' Q) → o.wp P a w (wpList P ops K l) K := fun hw' =>
      wpOper_sound h1 hS hfr hdst hw' hrest
    have hskip : wpOps P (nm + 8) sl' (putA t o.dst (.v undef)) h Q → wpList P ops K l (a.put o.dst undef) w := fun hw' =>
      hrest _ _ _ _ ρ U (hS.skip hdst) (fun b hb => .inl hb) hw'
    obtain ⟨dst, op, gd, af⟩ := so
    subst h2
    simp only [wpOps] at hw
    simp only [wpList]
    split at hw
    · rename_i hg
      have hg' := h3.1 rfl
      have : Region.wanted o (yielded ops a.tmps) = true := by simp [Region.wanted, hg']
      rw [if_pos this]
      exact .inl (hdo hw)
    · rename_i g wt
      obtain ⟨j, hj, hjd⟩ := h4 g wt rfl
      unfold onG at hw
      split at hw
      · rename_i b hx
        obtain ⟨u, hu, hv⟩ := hS.tm g _ hx
        have := hv.v_inv
        subst this
        rw [wanted_bool hj hjd hu]
        cases b <;> cases wt
        · exact .inl (hdo (hw.2 rfl))
        · exact hskip (hw.2 rfl)
        · exact hskip (hw.1 rfl)
        · exact .inl (hdo (hw.1 rfl))
      · rename_i xs hx
        obtain ⟨u, hu, hv⟩ := hS.tm g _ hx
        have := hv.v_inv
        subst this
        rw [wanted_tuple hj hjd hu]
        exact hskip hw
      · exact hw.elim
end
end Go.Eng
