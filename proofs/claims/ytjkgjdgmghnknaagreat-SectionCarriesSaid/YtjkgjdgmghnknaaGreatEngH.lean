/-
  The engine, joined part H: an abstract interpreter over the kit's calls, and its soundness.
  No condition beyond those that each theorem states.
-/
import Derived.Test.YtjkgjdgmghnknaaGreatEngG
set_option linter.all false
set_option linter.unusedSimpArgs false
set_option linter.unusedVariables false
namespace Go.Eng
open Go

/-! Frames and lists. -/
def frLgo (T : Fr) : List Nat → List (Nat × AV)
  | [] => []
  | k :: l => match rdT k T with
    | some x => (k, x) :: frLgo T l
    | none => frLgo T l
def frL (T : Fr) : List (Nat × AV) := frLgo T (List.range 256)
theorem frLgo_get {T : Fr} : ∀ {l : List Nat} {k : Nat} {x : AV}, get (frLgo T l) k = some x → getT T k = some x
  | [], k, x, h => by cases h
  | j :: l, k, x, h => by
    simp only [frLgo] at h
    split at h
    · rename_i y hy
      by_cases e : j = k
      · subst e; rw [get_same] at h; cases h; exact rdT_get hy
      · rw [get_ne _ _ _ _ e] at h; exact frLgo_get h
    · exact frLgo_get h
def frOfL : List (Nat × AV) → Fr
  | [] => fr0
  | p :: l => wrT p.1 (frOfL l) p.2

theorem wrT_ge {T : Fr} {k : Nat} {x : AV} (h : 256 ≤ k) : wrT k T x = T := by
  have h1 : 16 ≤ k / 16 := by omega
  have h2 : (N16.ps (α := N16 (Option AV)))[k / 16]? = none := List.getElem?_eq_none (by rw [ps_len]; exact h1)
  unfold wrT
  rw [h2]
  rfl
theorem View.put {t : List (Nat × AV)} {T : Fr} (hv : View t T) (k : Nat) (x : AV) : View ((k, x) :: t) (wrT k T x) := by
  by_cases hk : k < 256
  · exact hv.wr (some k) x fun j e => by cases e; exact hk
  · rw [wrT_ge (by omega)]
    intro j y hy
    have hj : j < 256 := by
      unfold getT at hy
      split at hy
      · assumption
      · cases hy
    rw [get_ne _ _ _ _ (by omega)]
    exact hv j y hy
theorem View.putO {t : List (Nat × AV)} {T : Fr} (hv : View t T) (d : Option Nat) (x : AV) : View (putA t d x) (wrOp d T x) := by
  cases d with
  | none => exact hv
  | some d => exact hv.put d x
theorem view_frOfL : ∀ (l : List (Nat × AV)), View l (frOfL l)
  | [] => fun k x h => by simp only [frOfL, getT_fr0] at h; cases h
  | (k, x) :: l => (view_frOfL l).put k x

theorem HR.heq {C : Ctx} {ρ : Nat → Loc} {U : Nat → Prop} {h H : Hp} {w : World} (hh : HEq' h H) (hr : HR C ρ U h w) : HR C ρ U H w :=
  ⟨fun b o hb => hr.hp b o ((hh b).trans hb), fun b hb => hr.hd b ((hh b).trans hb), hr.inj, hr.os, hr.tape, hr.output, hr.size, hr.old, hr.okl, hr.ownl,
    fun b l hl => by obtain ⟨h1, h2, cs, h3⟩ := hr.fix b l hl; exact ⟨h1, h2, cs, (hh b).symm.trans h3⟩⟩
theorem R.heq {C : Ctx} {ρ : Nat → Loc} {U : Nat → Prop} {n : Nat} {t t' : List (Nat × AV)} {h H : Hp} {a : Act} {w : World} (hh : HEq' h H) (ht : ∀ k x, get t' k = some x → get t k = some x) (hr : R C ρ U ⟨n, t, h⟩ a w) : R C ρ U ⟨n, t', H⟩ a w :=
  ⟨hr.hr.heq hh, hr.defers, hr.sz, fun k x hk => hr.tm k x (ht k x hk)⟩
theorem wkth_frL {t : List (Nat × AV)} {T : Fr} {h H : Hp} {t2 : List (Nat × AV)} {h2 : Hp} (hv : View t T) (hh : HEq' h H) (hw : WkTH (frL T) H t2 h2) : WkTH t h t2 h2 :=
  fun C ρ U a w hr => hw C ρ U a w (hr.heq hh fun k x hk => hv k x (frLgo_get hk))

/-! The heap after an operation: what is new in front, what turned in its place. -/
def repl (b : Nat) (o : Ob) (H : Hp) : Hp := match H with
  | [] => [(b, o)]
  | p :: l => bif Nat.beq p.1 b then (b, o) :: l else p :: repl b o l
def upH (n : Nat) (u : Hp) (H : Hp) : Hp := match u with
  | [] => H
  | p :: l => bif Nat.ble n p.1 then p :: upH n l H else repl p.1 p.2 (upH n l H)
theorem repl_get : ∀ (H : Hp) (b : Nat) (o : Ob) (k : Nat), get (repl b o H) k = get ((b, o) :: H) k
  | [], b, o, k => rfl
  | (a, x) :: l, b, o, k => by
    simp only [repl]
    cases hb : Nat.beq a b with
    | true =>
      have := Nat.eq_of_beq_eq_true hb
      subst this
      simp only [cond_true, get]
      split <;> rfl
    | false =>
      have hn := Nat.ne_of_beq_eq_false hb
      simp only [cond_false, get, repl_get l b o k]
      by_cases e : a = k
      · rw [if_pos e, if_neg (fun h => hn (e.trans h.symm)), if_pos e]
      · rw [if_neg e]
        by_cases e2 : b = k
        · rw [if_pos e2, if_pos e2]
        · rw [if_neg e2, if_neg e2, if_neg e]
theorem upH_get {h H : Hp} (hh : HEq' h H) (n : Nat) : ∀ (u : Hp), HEq' (u ++ h) (upH n u H)
  | [] => hh
  | (b, o) :: u => by
    intro k
    simp only [upH, List.cons_append]
    have ih := upH_get hh n u k
    cases hb : Nat.ble n b with
    | true => simp only [cond_true, get]; rw [ih]
    | false => rw [cond_false, repl_get]; simp only [get]; rw [ih]

abbrev Stm := RunO → Nat → Fr → Hp → List Use → RR
abbrev DStm := List Foot → Stm
def apO (o O : List Use) : List Use := match o with
  | [] => O
  | o => o ++ O
theorem apO_eq (o O : List Use) : apO o O = o ++ O := by cases o <;> rfl

/-! Operations. -/
def opF (c : Core) (w : Wr) (d : Nat) (k : Stm) : Stm := fun run n T H O => c (n + d) T H fun y u _ => k run n (w T y) (upH n u H) O
def opC (kl : Bool) (f : Rd) (as : List Rd) (w : Wr) (d : Nat) (k : Stm) : Stm := fun run n T H O => cCallK kl run (n + d) T H f as fun y u _ o => k run n (w T y) (upH n u H) (apO o O)
/-- An operation that may have to freeze rows: `rs` tells what it lays into a row. -/
def opZ (rs : List Rd) (op : SOp) (ks : List (Nat × Rd)) (c : Core) (w : Wr) (d : Nat) (k : Stm) : Stm := fun run n T H O =>
  rdsK rs T fun xs => bif pureL xs then c (n + d) T H (fun y u _ => k run n (w T y) (upH n u H) O)
    else tmpK ks T fun t1 => match eff2 (n + d) t1 H op with
      | some _ => c (n + d) T H (fun y u _ => k run n (w T y) (upH n u H) O)
      | none => match frz (zOf t1 H op) (frL T) H with
        | some (t2, h2) => c (n + d) (frOfL t2) h2 (fun y u _ => k run n (w (frOfL t2) y) (upH n u h2) O)
        | none => none
def laid : SOp → Option (List Rd)
  | .store _ _ y => some [rdOp y]
  | .bslice _ _ _ _ ps => some (ps.map fun p => rdOp p.2)
  | .mput _ _ x => some [rdOp x]
  | _ => none
def callO : SOp → Option (Operand × List Operand)
  | .call f as => some (f, as)
  | _ => none
theorem callO_some {op : SOp} {p : Operand × List Operand} (h : callO op = some p) : op = .call p.1 p.2 := by
  cases op <;> simp only [callO, Option.some.injEq] at h <;> first | (subst h; rfl) | cases h
theorem callO_none {op : SOp} (h : callO op = none) (f : Operand) (as : List Operand) : op ≠ .call f as := by
  intro e
  subst e
  cases h
def opS (kl : Bool) (o : SOper) (d : Nat) (k : Stm) : Stm := match callO o.op with
  | some p => opC kl (rdOp p.1) (p.2.map rdOp) (wrOp o.dst) d k
  | none => match laid o.op with
    | some rs => opZ rs o.op (ksOf o.op) (coreOf o.op) (wrOp o.dst) d k
    | none => opF (coreOf o.op) (wrOp o.dst) d k

theorem opX_eff {run : RunT} {nm : Nat} {o : SOper} {t : List (Nat × AV)} {h : Hp} {r : Rec} (hp : plainOp o.op = true) (e : opX run nm o t h = some r) : ∃ e0, eff nm t h o.op = some e0 ∧ e0.pre ∧ e0.val = r.val ∧ e0.upd = r.upd := by
  rw [opX_plain hp] at e
  split at e
  · rename_i e0 h0
    cases hb : preB t h o.op with
    | false => rw [hb] at e; cases e
    | true =>
      rw [hb] at e
      simp only [cond_true, Option.some.injEq] at e
      subst e
      have h1 : eff nm t h o.op = some e0 := by rw [eff2_eq]; exact h0
      exact ⟨e0, h1, preB_ok h1 hb, rfl, rfl⟩
  · cases e

/-- What a piece of straight code shows. -/
def KOk (P : Program) (len : Nat) (k : Stm) (G : Nat → List (Nat × AV) → Hp → (List (Nat × AV) → Hp → Prop) → Prop) : Prop := ∀ run, RunOOk P run → ∀ n T H O e n' T' H' O', k run n T H O = some ⟨e, n', T', H', O'⟩ →
  (∃ L, O' = L ++ O) ∧ (e = .normal ∧ n' = n + 8 * len) ∧ (Valid P O' → ∀ t h, View t T → HEq' h H → ∃ t' h', View t' T' ∧ HEq' h' H' ∧ ∀ Q : List (Nat × AV) → Hp → Prop, Q t' h' → G n t h Q)

theorem opS_ok {P : Program} {kl : Bool} {len : Nat} {o : SOper} {d : Nat} {k : Stm} {G : Nat → List (Nat × AV) → Hp → (List (Nat × AV) → Hp → Prop) → Prop} (hk : KOk P len k G) :
    KOk P len (opS kl o d k) fun n t h Q => wpOper P (n + d) o t h fun t h => G n t h Q := by
  intro run hrun n T H O e n' T' H' O' h
  unfold opS at h
  have plain : ∀ (c : Core), (∀ f as, o.op ≠ .call f as) → CoreOk o.op c → c (n + d) T H (fun y u _ => k run n (wrOp o.dst T y) (upH n u H) O) = some ⟨e, n', T', H', O'⟩ →
      (∃ L, O' = L ++ O) ∧ (e = .normal ∧ n' = n + 8 * len) ∧ (Valid P O' → ∀ t h, View t T → HEq' h H → ∃ t' h', View t' T' ∧ HEq' h' H' ∧ ∀ Q : List (Nat × AV) → Hp → Prop, Q t' h' → wpOper P (n + d) o t h fun t h => G n t h Q) := by
    intro c hc hco h
    obtain ⟨y, u, rd, h, hX⟩ := hco (rstar P run) _ _ _ _ _ h
    obtain ⟨hL, hen, hs⟩ := hk run hrun _ _ _ _ _ _ _ _ _ h
    refine ⟨hL, hen, fun hv t h1 hvw hh => ?_⟩
    obtain ⟨t', h', h2, h3, h4⟩ := hs hv _ _ (hvw.putO o.dst y) (upH_get hh n u)
    refine ⟨t', h', h2, h3, fun Q hQ => ?_⟩
    have hx := hX t o hvw rfl
    rw [← opX_heq hh hc] at hx
    exact opX_wp (rstar_ok hrun) hx _ (h4 Q hQ)
  cases hcl : callO o.op with
  | some p =>
    obtain ⟨f, as⟩ := p
    have hop := callO_some hcl
    rw [hcl] at h
    simp only at h hop
    obtain ⟨y, u, rd, O1, h, hC⟩ := cCallK_some hrun h
    obtain ⟨⟨L, hL⟩, hen, hs⟩ := hk run hrun _ _ _ _ _ _ _ _ _ h
    rw [apO_eq] at hL
    refine ⟨⟨L ++ O1, by rw [hL, List.append_assoc]⟩, hen, fun hv t h1 hvw hh => ?_⟩
    have hv1 : Valid P O1 := by rw [hL] at hv; exact hv.app.2.app.1
    obtain ⟨t', h', h2, h3, h4⟩ := hs hv _ _ (hvw.putO o.dst y) (upH_get hh n u)
    refine ⟨t', h', h2, h3, fun Q hQ => ?_⟩
    simp only [wpOper, hop]
    exact hC hv1 t h1 hvw hh _ fun g xs hCD => hCD h1 (fun _ _ => rfl) _ (h4 Q hQ)
  | none =>
    have hnc' : ∀ f as, o.op ≠ .call f as := callO_none hcl
    rw [hcl] at h
    simp only at h
    cases hl : laid o.op with
    | some rs =>
      rw [hl] at h
      simp only at h
      obtain ⟨xs, h⟩ : ∃ xs, (bif pureL xs then coreOf o.op (n + d) T H (fun y u _ => k run n (wrOp o.dst T y) (upH n u H) O)
        else tmpK (ksOf o.op) T fun t1 => match eff2 (n + d) t1 H o.op with
          | some _ => coreOf o.op (n + d) T H (fun y u _ => k run n (wrOp o.dst T y) (upH n u H) O)
          | none => match frz (zOf t1 H o.op) (frL T) H with
            | some (t2, h2) => coreOf o.op (n + d) (frOfL t2) h2 (fun y u _ => k run n (wrOp o.dst (frOfL t2) y) (upH n u h2) O)
            | none => none) = some ⟨e, n', T', H', O'⟩ := by
        clear hk plain
        have : ∀ (rs : List Rd) (kk : List AV → RR), rdsK rs T kk = some ⟨e, n', T', H', O'⟩ → ∃ xs, kk xs = some ⟨e, n', T', H', O'⟩ := by
          intro rs
          induction rs with
          | nil => intro kk h; exact ⟨_, h⟩
          | cons r rs ih =>
            intro kk h
            obtain ⟨y, _, h⟩ := oB_some h
            obtain ⟨xs, h⟩ := ih _ h
            exact ⟨_, h⟩
        exact this _ _ h
      generalize pureL xs = q at h
      cases q with
      | true => exact plain _ hnc' (coreOf_ok _ hnc') h
      | false =>
        simp only [cond_false] at h
        obtain ⟨t1, h, ht1⟩ := tmpK_some h
        split at h
        · exact plain _ hnc' (coreOf_ok _ hnc') h
        · rename_i hn
          split at h
          · rename_i t2 h2 hf
            obtain ⟨y, u, rd, h, hX⟩ := coreOf_ok _ hnc' (rstar P run) _ _ _ _ _ h
            obtain ⟨hL, hen, hs⟩ := hk run hrun _ _ _ _ _ _ _ _ _ h
            refine ⟨hL, hen, fun hv t h1 hvw hh => ?_⟩
            obtain ⟨t', h', h5, h3, h4⟩ := hs hv _ _ ((view_frOfL t2).putO o.dst y) (upH_get (fun _ => rfl) n u)
            refine ⟨t', h', h5, h3, fun Q hQ => ?_⟩
            have hp : plainOp o.op = true := by
              revert hl
              generalize o.op = op
              cases op <;> simp [laid, plainOp]
            have hx := hX t2 o (view_frOfL t2) rfl
            obtain ⟨e0, g1, g2, g3, g4⟩ := opX_eff hp hx
            show wpOper P (n + d) o t h1 fun t h => G n t h Q
            rw [wpOper_plain hp, eff2_eq, (eff2_heq hh o.op).1, (eff2_ag hp (ag_of ht1 hvw)).1, hn]
            refine ⟨t2, h2, wkth_frL hvw hh (frz_ok hf), ?_⟩
            rw [g1]
            refine ⟨g2, ?_⟩
            show G n (putA t2 o.dst e0.val) (e0.upd ++ h2) Q
            rw [g3, g4]
            exact h4 Q hQ
          · cases h
    | none =>
      rw [hl] at h
      exact plain _ hnc' (coreOf_ok _ hnc') h

/-! Regions in order. -/
def sameB (b want : Bool) : Bool := match b, want with
  | true, true => true
  | false, false => true
  | _, _ => false
theorem sameB_eq (b want : Bool) : sameB b want = (b == want) := by cases b <;> cases want <;> rfl
def grd (rg : Rd) (want : Bool) (w : Wr) (a k : Stm) : Stm := fun run n T H O => oB (rg T) fun v => match v with
  | .v (.bool b) => bif sameB b want then a run n T H O else k run n (w T (.v undef)) H O
  | .v (.tuple _) => k run n (w T (.v undef)) H O
  | _ => none
def grdO (rg : Rd) (want : Bool) (w : Wr) (a : Stm → Stm) (k : Stm) : Stm := grd rg want w (a k) k
def endF (len : Nat) : Stm := fun _ n T H O => some ⟨.normal, n + 8 * len, T, H, O⟩
def opsF (kl : Bool) (len : Nat) : List SOper → Nat → Stm
  | [], _ => endF len
  | o :: l, d => match o.guard with
    | none => opS kl o d (opsF kl len l (d + 8))
    | some (g, want) => grdO (rdT g) want (wrOp o.dst) (opS kl o d) (opsF kl len l (d + 8))
theorem opsF_ok {P : Program} {kl : Bool} {len : Nat} : ∀ (l : List SOper) (d : Nat), KOk P len (opsF kl len l d) (fun n t h Q => wpOps P (n + d) l t h Q)
  | [], d => by
    intro run hrun n T H O e n' T' H' O' h
    simp only [opsF, endF, Option.some.injEq, XR.mk.injEq] at h
    obtain ⟨rfl, rfl, rfl, rfl, rfl⟩ := h
    exact ⟨⟨[], rfl⟩, ⟨rfl, rfl⟩, fun _ t h hv hh => ⟨t, h, hv, hh, fun Q hQ => hQ⟩⟩
  | o :: l, d => by
    intro run hrun n T H O e n' T' H' O' h
    have ih : KOk P len (opsF kl len l (d + 8)) (fun n t h Q => wpOps P (n + d + 8) l t h Q) := opsF_ok l (d + 8)
    simp only [opsF] at h
    cases hg : o.guard with
    | none =>
      rw [hg] at h
      simp only at h
      obtain ⟨h1, hen, h2⟩ := opS_ok ih run hrun _ _ _ _ _ _ _ _ _ h
      refine ⟨h1, hen, fun hv t h hvw hh => ?_⟩
      obtain ⟨t', h', h3, h4, h5⟩ := h2 hv t h hvw hh
      refine ⟨t', h', h3, h4, fun Q hQ => ?_⟩
      simp only [wpOps, hg]
      exact h5 Q hQ
    | some gw =>
      obtain ⟨g, want⟩ := gw
      rw [hg] at h
      simp only [grdO, grd] at h
      obtain ⟨v, hv0, h⟩ := oB_some h
      have hgt := rdT_get hv0
      split at h
      · rename_i b
        rw [sameB_eq] at h
        cases hw : (b == want) with
        | true =>
          rw [hw] at h
          obtain ⟨h1, hen, h2⟩ := opS_ok ih run hrun _ _ _ _ _ _ _ _ _ h
          refine ⟨h1, hen, fun hv t h hvw hh => ?_⟩
          obtain ⟨t', h', h3, h4, h5⟩ := h2 hv t h hvw hh
          refine ⟨t', h', h3, h4, fun Q hQ => ?_⟩
          have h6 := h5 Q hQ
          simp only [wpOps, hg, hvw _ _ hgt, onG_bool]
          cases b <;> cases want <;> simp_all [Split]
        | false =>
          rw [hw] at h
          obtain ⟨h1, hen, h2⟩ := ih run hrun _ _ _ _ _ _ _ _ _ h
          refine ⟨h1, hen, fun hv t h hvw hh => ?_⟩
          obtain ⟨t', h', h3, h4, h5⟩ := h2 hv _ h (hvw.putO o.dst _) hh
          refine ⟨t', h', h3, h4, fun Q hQ => ?_⟩
          have h6 := h5 Q hQ
          simp only [wpOps, hg, hvw _ _ hgt, onG_bool]
          cases b <;> cases want <;> simp_all [Split]
      · rename_i vs
        obtain ⟨h1, hen, h2⟩ := ih run hrun _ _ _ _ _ _ _ _ _ h
        refine ⟨h1, hen, fun hv t h hvw hh => ?_⟩
        obtain ⟨t', h', h3, h4, h5⟩ := h2 hv _ h (hvw.putO o.dst _) hh
        refine ⟨t', h', h3, h4, fun Q hQ => ?_⟩
        simp only [wpOps, hg, hvw _ _ hgt]
        exact h5 Q hQ
      · cases h

/-! Regions of open order. -/
def opD (c : Core) (w : Wr) (d : Nat) (k : DStm) : DStm := fun acc run n T H O => c (n + d) T H fun y u rd => k ((rd, u.map Prod.fst) :: acc) run n (w T y) (upH n u H) O
def opCD (kl : Bool) (f : Rd) (as : List Rd) (w : Wr) (d : Nat) (k : DStm) : DStm := fun acc run n T H O => cCallK kl run (n + d) T H f as fun y u rd o => k ((rd, u.map Prod.fst) :: acc) run n (w T y) (upH n u H) (apO o O)
def opSD (kl : Bool) (o : SOper) (d : Nat) (k : DStm) : DStm := match callO o.op with
  | some p => opCD kl (rdOp p.1) (p.2.map rdOp) (wrOp o.dst) d k
  | none => opD (coreOf o.op) (wrOp o.dst) d k
def grdD (rg : Rd) (want : Bool) (w : Wr) (a k : DStm) : DStm := fun acc run n T H O => oB (rg T) fun v => match v with
  | .v (.bool b) => bif sameB b want then a acc run n T H O else k (([], []) :: acc) run n (w T (.v undef)) H O
  | .v (.tuple _) => k (([], []) :: acc) run n (w T (.v undef)) H O
  | _ => none
def grdDO (rg : Rd) (want : Bool) (w : Wr) (a : DStm → DStm) (k : DStm) : DStm := grdD rg want w (a k) k
def noW : List Foot → Bool
  | [] => true
  | p :: l => match p.2 with
    | [] => noW l
    | _ => false
/-- Two footprints that don't meet. -/
def clean (x y : Foot) : Bool := match x.2, y.2 with
  | [], [] => true
  | w, v => offB w y.1 && (offB w v && offB v x.1)
def chkA (b : Nat) (y : Foot) : List (Nat × Foot) → Bool
  | [] => true
  | p :: l => bif clean p.2 y then chkA b y l else bif b.testBit p.1 then chkA b y l else false
/-- prev: the footprints before, with their numbers; prevW: those of them that turn a name. -/
def okG (bef : List Nat) : Nat → List (Nat × Foot) → List (Nat × Foot) → List Foot → Bool
  | _, _, _, [] => true
  | j, prev, prevW, y :: l => match y.2 with
    | [] => bif chkA (bef.getD j 0) y prevW then okG bef (j + 1) ((j, y) :: prev) prevW l else false
    | _ :: _ => bif chkA (bef.getD j 0) y prev then okG bef (j + 1) ((j, y) :: prev) ((j, y) :: prevW) l else false
def endD (len : Nat) (bef : List Nat) : DStm := fun acc _ n T H O =>
  bif noW acc then some ⟨.normal, n + 8 * len, T, H, O⟩ else bif okG bef 0 [] [] acc.reverse then some ⟨.normal, n + 8 * len, T, H, O⟩ else none
def befOf (ops : List SOper) : List Nat := befGo [] (ops.map (·.after))
def drawF (kl : Bool) (e : DStm) : List SOper → Nat → DStm
  | [], _ => e
  | o :: l, d => match o.guard with
    | none => opSD kl o d (drawF kl e l (d + 8))
    | some (g, want) => grdDO (rdT g) want (wrOp o.dst) (opSD kl o d) (drawF kl e l (d + 8))
def statOk (ops : List SOper) : Bool := okDraw ops (ops.map fun _ => ([], []))

def era (p : SOper × Foot) : SOper × Foot := (p.1, ([], []))
def tmpC (x y : SOper × Foot) : Bool :=
  (match x.1.dst with
    | some d => !(uses y.1).contains d && y.1.dst != some d
    | none => true) &&
  (match y.1.dst with
    | some d => !(uses x.1).contains d
    | none => true)
theorem noconf_clean {x y : SOper × Foot} (h1 : noconf (era x) (era y) = true) (h2 : clean x.2 y.2 = true) : noconf x y = true := by
  unfold noconf at h1 ⊢
  simp only [era, offB, List.all_nil, Bool.and_true, Bool.true_and] at h1
  simp only [Bool.and_eq_true] at h1 ⊢
  refine ⟨h1.1, h1.2, ?_⟩
  unfold clean at h2
  split at h2
  · rename_i e1 e2
    rw [e1, e2]
    exact ⟨rfl, rfl, rfl⟩
  · simpa only [Bool.and_eq_true] using h2
theorem okPairs_iff (bef : List Nat) (all : List (SOper × Foot)) : ∀ (l : List (SOper × Foot)) (j : Nat), okPairs bef all j l = true ↔ ∀ k y, l[k]? = some y → ∀ i x, i < j + k → all[i]? = some x → ((bef.getD (j + k) 0).testBit i || noconf x y) = true
  | [], j => by simp [okPairs]
  | y :: l, j => by
    simp only [okPairs, Bool.and_eq_true, okPairs_iff bef all l (j + 1)]
    constructor
    · rintro ⟨h1, h2⟩ k z hk i x hi hx
      cases k with
      | zero =>
        simp only [List.getElem?_cons_zero, Option.some.injEq] at hk
        subst hk
        rw [List.all_eq_true] at h1
        have hm : (x, i) ∈ (all.take j).zipIdx := by
          rw [List.mem_zipIdx_iff_getElem?]
          simp only [List.getElem?_take]
          rw [if_pos (by omega)]
          exact hx
        exact h1 _ hm
      | succ k =>
        have := h2 k z (by simpa using hk) i x (by omega) hx
        rwa [show j + 1 + k = j + (k + 1) by omega] at this
    · intro h
      refine ⟨?_, fun k z hk i x hi hx => ?_⟩
      · rw [List.all_eq_true]
        rintro ⟨x, i⟩ hm
        rw [List.mem_zipIdx_iff_getElem?] at hm
        simp only [List.getElem?_take] at hm
        split at hm
        · exact h 0 y rfl i x (by omega) hm
        · cases hm
      · have := h (k + 1) z (by simpa using hk) i x (by omega) hx
        rwa [show j + (k + 1) = j + 1 + k by omega] at this
theorem chkA_all {b : Nat} {y : Foot} : ∀ {l : List (Nat × Foot)}, chkA b y l = true → ∀ p ∈ l, (b.testBit p.1 || clean p.2 y) = true
  | [], _, p, hp => by simp at hp
  | q :: l, h, p, hp => by
    simp only [chkA] at h
    cases hc : clean q.2 y with
    | true =>
      rw [hc] at h
      rcases List.mem_cons.1 hp with rfl | hp
      · rw [hc, Bool.or_true]
      · exact chkA_all h p hp
    | false =>
      rw [hc] at h
      simp only [cond_false] at h
      cases hb : b.testBit q.1 with
      | false => rw [hb] at h; cases h
      | true =>
        rw [hb] at h
        rcases List.mem_cons.1 hp with rfl | hp
        · rw [hb, Bool.true_or]
        · exact chkA_all h p hp
theorem okG_all {bef : List Nat} : ∀ (l : List Foot) (j : Nat) (prev prevW : List (Nat × Foot)), okG bef j prev prevW l = true → (∀ p ∈ prev, p.2.2 = [] ∨ p ∈ prevW) →
    ∀ k y, l[k]? = some y → (∀ p ∈ prev, ((bef.getD (j + k) 0).testBit p.1 || clean p.2 y) = true) ∧ ∀ i x, i < k → l[i]? = some x → ((bef.getD (j + k) 0).testBit (j + i) || clean x y) = true
  | [], j, prev, prevW, h, hp, k, y, hk => by simp at hk
  | z :: l, j, prev, prevW, h, hp, k, y, hk => by
    have key : ∃ prevW', (∀ p ∈ prev, ((bef.getD j 0).testBit p.1 || clean p.2 z) = true) ∧ okG bef (j + 1) ((j, z) :: prev) prevW' l = true ∧ (∀ p ∈ ((j, z) :: prev), p.2.2 = [] ∨ p ∈ prevW') := by
      simp only [okG] at h
      split at h
      · rename_i hz
        cases hc : chkA (bef.getD j 0) z prevW with
        | false => rw [hc] at h; cases h
        | true =>
          rw [hc] at h
          refine ⟨prevW, fun p hpp => ?_, h, fun p hpp => ?_⟩
          · rcases hp p hpp with h0 | h0
            · have : clean p.2 z = true := by unfold clean; rw [h0, hz]
              rw [this, Bool.or_true]
            · exact chkA_all hc p h0
          · rcases List.mem_cons.1 hpp with rfl | hpp
            · exact .inl hz
            · exact hp p hpp
      · cases hc : chkA (bef.getD j 0) z prev with
        | false => rw [hc] at h; cases h
        | true =>
          rw [hc] at h
          refine ⟨(j, z) :: prevW, chkA_all hc, h, fun p hpp => ?_⟩
          rcases List.mem_cons.1 hpp with rfl | hpp
          · exact .inr (List.mem_cons_self ..)
          · exact (hp p hpp).imp id (List.mem_cons_of_mem _)
    obtain ⟨prevW', h1, h2, h3⟩ := key
    cases k with
    | zero =>
      simp only [List.getElem?_cons_zero, Option.some.injEq] at hk
      subst hk
      exact ⟨h1, fun i x hi _ => absurd hi (by omega)⟩
    | succ k =>
      obtain ⟨h4, h5⟩ := okG_all l (j + 1) _ _ h2 h3 k y (by simpa using hk)
      rw [show j + 1 + k = j + (k + 1) by omega] at h4 h5
      refine ⟨fun p hpp => h4 p (List.mem_cons_of_mem _ hpp), fun i x hi hx => ?_⟩
      cases i with
      | zero =>
        simp only [List.getElem?_cons_zero, Option.some.injEq] at hx
        subst hx
        exact h4 (j, z) (List.mem_cons_self ..)
      | succ i =>
        have := h5 i x (by omega) (by simpa using hx)
        rwa [show j + 1 + i = j + (i + 1) by omega] at this
theorem noW_all : ∀ {acc : List Foot}, noW acc = true → ∀ p ∈ acc, p.2 = []
  | [], _, p, hp => by simp at hp
  | q :: l, h, p, hp => by
    simp only [noW] at h
    split at h
    · rename_i hq
      rcases List.mem_cons.1 hp with rfl | hp
      · exact hq
      · exact noW_all h p hp
    · cases h
theorem zip_era : ∀ (ops : List SOper) (fs : List Foot), fs.length = ops.length → (ops.zip fs).map era = ops.zip (ops.map fun _ => ([], []))
  | [], fs, _ => by simp
  | o :: ops, [], h => by simp at h
  | o :: ops, f :: fs, h => by
    simp only [List.zip_cons_cons, List.map_cons, zip_era ops fs (by simpa using h)]
    rfl
theorem okDraw_dyn {ops : List SOper} {fs : List Foot} (hs : statOk ops = true) (hl : fs.length = ops.length)
    (hd : ∀ k y, fs[k]? = some y → ∀ i x, i < k → fs[i]? = some x → (((befOf ops).getD k 0).testBit i || clean x y) = true) : okDraw ops fs = true := by
  unfold statOk okDraw at hs
  unfold okDraw
  simp only [Bool.and_eq_true] at hs ⊢
  refine ⟨hs.1, ?_⟩
  have h2 := hs.2
  rw [← zip_era ops fs hl] at h2
  rw [okPairs_iff] at h2 ⊢
  intro k y hk i x hi hx
  have h3 := h2 k (era y) (by rw [List.getElem?_map, hk]; rfl) i (era x) hi (by rw [List.getElem?_map, hx]; rfl)
  simp only [Nat.zero_add] at hi h3 ⊢
  have hy : fs[k]? = some y.2 := (List.getElem?_zip_eq_some.1 hk).2
  have hx2 : fs[i]? = some x.2 := (List.getElem?_zip_eq_some.1 hx).2
  have h4 := hd k y.2 hy i x.2 hi hx2
  unfold befOf at h4
  cases hb : ((befGo [] (ops.map (·.after))).getD k 0).testBit i with
  | true => rfl
  | false =>
    rw [hb, Bool.false_or] at h3 h4
    rw [Bool.false_or]
    exact noconf_clean h3 h4

def DOk (P : Program) (len : Nat) (ops : List SOper) (m : Nat) (k : DStm) (G : List Foot → Nat → List (Nat × AV) → Hp → (List Foot → List (Nat × AV) → Hp → Prop) → Prop) : Prop := ∀ run, RunOOk P run → ∀ acc n T H O e n' T' H' O', acc.length + m = ops.length → k acc run n T H O = some ⟨e, n', T', H', O'⟩ →
  (∃ L, O' = L ++ O) ∧ (e = .normal ∧ n' = n + 8 * len) ∧ (Valid P O' → ∀ t h, View t T → HEq' h H → ∃ t' h', View t' T' ∧ HEq' h' H' ∧ ∀ Q : List (Nat × AV) → Hp → Prop, Q t' h' → G acc n t h fun acc t h => okDraw ops acc.reverse = true ∧ Q t h)

theorem endD_ok {P : Program} {len : Nat} {ops : List SOper} (hst : statOk ops = true) : DOk P len ops 0 (endD len (befOf ops)) (fun acc n t h Q => Q acc t h) := by
  intro run hrun acc n T H O e n' T' H' O' hl h
  have key : okDraw ops acc.reverse = true ∧ some (⟨.normal, n + 8 * len, T, H, O⟩ : XR) = some ⟨e, n', T', H', O'⟩ := by
    simp only [endD] at h
    cases hb : noW acc with
    | true =>
      rw [hb] at h
      refine ⟨okDraw_dyn hst (by rw [List.length_reverse]; omega) fun k y hk i x _ hx => ?_, h⟩
      have h1 := noW_all hb y (List.mem_reverse.1 (List.mem_of_getElem? hk))
      have h2 := noW_all hb x (List.mem_reverse.1 (List.mem_of_getElem? hx))
      have : clean x y = true := by unfold clean; rw [h1, h2]
      rw [this, Bool.or_true]
    | false =>
      rw [hb] at h
      simp only [cond_false] at h
      cases ho : okG (befOf ops) 0 [] [] acc.reverse with
      | true =>
        rw [ho] at h
        refine ⟨okDraw_dyn hst (by rw [List.length_reverse]; omega) fun k y hk i x hi hx => ?_, h⟩
        have := (okG_all _ 0 [] [] ho (fun p hp => by simp at hp) k y hk).2 i x hi hx
        simpa only [Nat.zero_add] using this
      | false => rw [ho] at h; cases h
  obtain ⟨ho, h⟩ := key
  simp only [Option.some.injEq, XR.mk.injEq] at h
  obtain ⟨rfl, rfl, rfl, rfl, rfl⟩ := h
  exact ⟨⟨[], rfl⟩, ⟨rfl, rfl⟩, fun _ t h hv hh => ⟨t, h, hv, hh, fun Q hQ => ⟨ho, hQ⟩⟩⟩

theorem opSD_ok {P : Program} {kl : Bool} {len : Nat} {ops : List SOper} {m : Nat} {o : SOper} {d : Nat} {k : DStm} {G : List Foot → Nat → List (Nat × AV) → Hp → (List Foot → List (Nat × AV) → Hp → Prop) → Prop} (hk : DOk P len ops m k G) :
    DOk P len ops (m + 1) (opSD kl o d k) fun acc n t h Q => wpOpD P (n + d) o t h fun r => G ((r.rd, r.upd.map Prod.fst) :: acc) n (putA t o.dst r.val) (r.upd ++ h) Q := by
  intro run hrun acc n T H O e n' T' H' O' hlen h
  unfold opSD at h
  cases hcl : callO o.op with
  | some p =>
    obtain ⟨f, as⟩ := p
    have hop := callO_some hcl
    rw [hcl] at h
    simp only [opCD] at h hop
    obtain ⟨y, u, rd, O1, h, hC⟩ := cCallK_some hrun h
    obtain ⟨⟨L, hL⟩, hen, hs⟩ := hk run hrun _ _ _ _ _ _ _ _ _ _ (by simp only [List.length_cons]; omega) h
    rw [apO_eq] at hL
    refine ⟨⟨L ++ O1, by rw [hL, List.append_assoc]⟩, hen, fun hv t h1 hvw hh => ?_⟩
    have hv1 : Valid P O1 := by rw [hL] at hv; exact hv.app.2.app.1
    obtain ⟨t', h', h2, h3, h4⟩ := hs hv _ _ (hvw.putO o.dst y) (upH_get hh n u)
    refine ⟨t', h', h2, h3, fun Q hQ => ?_⟩
    simp only [wpOpD, hop]
    exact hC hv1 t h1 hvw hh _ fun g xs hCD => ⟨_, hCD, h4 Q hQ⟩
  | none =>
    have hnc' : ∀ f as, o.op ≠ .call f as := callO_none hcl
    rw [hcl] at h
    simp only [opD] at h
    obtain ⟨y, u, rd, h, hX⟩ := coreOf_ok _ hnc' (rstar P run) _ _ _ _ _ h
    obtain ⟨hL, hen, hs⟩ := hk run hrun _ _ _ _ _ _ _ _ _ _ (by simp only [List.length_cons]; omega) h
    refine ⟨hL, hen, fun hv t h1 hvw hh => ?_⟩
    obtain ⟨t', h', h2, h3, h4⟩ := hs hv _ _ (hvw.putO o.dst y) (upH_get hh n u)
    refine ⟨t', h', h2, h3, fun Q hQ => ?_⟩
    have hx := hX t o hvw rfl
    rw [← opX_heq hh hnc'] at hx
    exact opX_wpD (rstar_ok hrun) hx _ (h4 Q hQ)

theorem drawF_ok {P : Program} {kl : Bool} {len : Nat} {ops : List SOper} {e : DStm} (he : DOk P len ops 0 e (fun acc n t h Q => Q acc t h)) : ∀ (l : List SOper) (d : Nat), DOk P len ops l.length (drawF kl e l d) (fun acc n t h Q => wpDrawL P (n + d) l acc t h Q)
  | [], d => he
  | o :: l, d => by
    intro run hrun acc n T H O e n' T' H' O' hlen h
    have ih : DOk P len ops l.length (drawF kl _ l (d + 8)) (fun acc n t h Q => wpDrawL P (n + d + 8) l acc t h Q) := drawF_ok he l (d + 8)
    simp only [drawF] at h
    cases hg : o.guard with
    | none =>
      rw [hg] at h
      simp only at h
      obtain ⟨h1, hen, h2⟩ := opSD_ok ih run hrun _ _ _ _ _ _ _ _ _ _ hlen h
      refine ⟨h1, hen, fun hv t h hvw hh => ?_⟩
      obtain ⟨t', h', h3, h4, h5⟩ := h2 hv t h hvw hh
      refine ⟨t', h', h3, h4, fun Q hQ => ?_⟩
      simp only [wpDrawL, hg]
      exact h5 Q hQ
    | some gw =>
      obtain ⟨g, want⟩ := gw
      rw [hg] at h
      simp only [grdDO, grdD] at h
      obtain ⟨v, hv0, h⟩ := oB_some h
      have hgt := rdT_get hv0
      split at h
      · rename_i b
        rw [sameB_eq] at h
        cases hw : (b == want) with
        | true =>
          rw [hw] at h
          obtain ⟨h1, hen, h2⟩ := opSD_ok ih run hrun _ _ _ _ _ _ _ _ _ _ hlen h
          refine ⟨h1, hen, fun hv t h hvw hh => ?_⟩
          obtain ⟨t', h', h3, h4, h5⟩ := h2 hv t h hvw hh
          refine ⟨t', h', h3, h4, fun Q hQ => ?_⟩
          have h6 := h5 Q hQ
          simp only [wpDrawL, hg, hvw _ _ hgt, onG_bool]
          cases b <;> cases want <;> simp_all [Split]
        | false =>
          rw [hw] at h
          obtain ⟨h1, hen, h2⟩ := ih run hrun _ _ _ _ _ _ _ _ _ _ (by simp only [List.length_cons] at hlen ⊢; omega) h
          refine ⟨h1, hen, fun hv t h hvw hh => ?_⟩
          obtain ⟨t', h', h3, h4, h5⟩ := h2 hv _ h (hvw.putO o.dst _) hh
          refine ⟨t', h', h3, h4, fun Q hQ => ?_⟩
          have h6 := h5 Q hQ
          simp only [wpDrawL, hg, hvw _ _ hgt, onG_bool]
          cases b <;> cases want <;> simp_all [Split]
      · rename_i vs
        obtain ⟨h1, hen, h2⟩ := ih run hrun _ _ _ _ _ _ _ _ _ _ (by simp only [List.length_cons] at hlen ⊢; omega) h
        refine ⟨h1, hen, fun hv t h hvw hh => ?_⟩
        obtain ⟨t', h', h3, h4, h5⟩ := h2 hv _ h (hvw.putO o.dst _) hh
        refine ⟨t', h', h3, h4, fun Q hQ => ?_⟩
        simp only [wpDrawL, hg, hvw _ _ hgt]
        exact h5 Q hQ
      · cases h
end Go.Eng

set_option linter.unusedSimpArgs false
set_option linter.unusedVariables false
namespace Go.Eng
open Go

def skipF : Stm := fun _ n T H O => some ⟨.normal, n, T, H, O⟩
def exitF (i : Nat) : Stm := fun _ n T H O => some ⟨.exit i, n, T, H, O⟩
def retF : Stm := fun _ n T H O => some ⟨.ret, n, T, H, O⟩
def xB (x : RR) (k : Exit → Nat → Fr → Hp → List Use → RR) : RR := match x with
  | some ⟨e, n, T, H, O⟩ => k e n T H O
  | none => none
theorem xB_some {x : RR} {k : Exit → Nat → Fr → Hp → List Use → RR} {r} (h : xB x k = some r) : ∃ e n T H O, x = some ⟨e, n, T, H, O⟩ ∧ k e n T H O = some r := by
  cases x with
  | none => cases h
  | some x => obtain ⟨e, n, T, H, O⟩ := x; exact ⟨e, n, T, H, O, rfl, h⟩
def seqF (a b : Stm) : Stm := fun run n T H O => xB (a run n T H O) fun e n T H O => match e with
  | .normal => b run n T H O
  | e => some ⟨e, n, T, H, O⟩
def condF (c : Rd) (a b : Stm) : Stm := fun run n T H O => oB (c T) fun v => match v with
  | .v (.bool true) => a run n T H O
  | .v (.bool false) => b run n T H O
  | _ => none
def blockF (id : Nat) (a : Stm) : Stm := fun run n T H O => xB (a run n T H O) fun e n T H O => match e with
  | .exit i => bif Nat.beq i id then some ⟨.normal, n, T, H, O⟩ else some ⟨.exit i, n, T, H, O⟩
  | e => some ⟨e, n, T, H, O⟩
def gcF (T : Fr) (H : Hp) (k : Fr → Hp → RR) : RR := bif Nat.ble H.length 40 then k T H else match frz [] (frL T) H with
  | some (t, h) => k (frOfL t) h
  | none => k T H
def loopF (a : Stm) : Nat → Stm
  | 0 => fun _ _ _ _ _ => none
  | f + 1 => fun run n T H O => xB (a run n T H O) fun e n T H O => match e with
    | .normal => gcF T H fun T H => loopF a f run n T H O
    | e => some ⟨e, n, T, H, O⟩

/-! Rows that a region of open order would lay into a row: frozen ahead of it. -/
def defOf : List SOper → Nat → Option SOp
  | [], _ => none
  | o :: l, k => match o.dst with
    | some d => bif Nat.beq d k then some o.op else defOf l k
    | none => defOf l k
def trc (ops : List SOper) : Nat → Operand → List Operand
  | 0, _ => []
  | f + 1, .tmp k => match defOf ops k with
    | none => [.tmp k]
    | some (.mov x) => trc ops f x
    | some (.load _ _ x) => trc ops f x
    | some (.faddr _ x) => trc ops f x
    | some (.nilc x) => trc ops f x
    | some (.fld _ _ _ x) => trc ops f x
    | some (.build _ ps) => ps.flatMap fun p => trc ops f p.2.2
    | _ => []
  | _ + 1, _ => []
def isEl (ops : List SOper) : Nat → Operand → Bool
  | 0, _ => false
  | f + 1, .tmp k => match defOf ops k with
    | some (.mov x) => isEl ops f x
    | some (.iaddr _ _ _) => true
    | some (.faddr _ x) => isEl ops f x
    | some (.nilc x) => isEl ops f x
    | _ => false
  | _ + 1, _ => false
def preO (ops : List SOper) : List Operand := ops.flatMap fun o => match o.op with
  | .bslice _ _ _ _ ps => ps.flatMap fun p => trc ops 8 p.2
  | .mput _ _ x => trc ops 8 x
  | .store _ x y => bif isEl ops 8 x then trc ops 8 y else []
  | _ => []
def zsOf (rs : List Rd) (T : Fr) (H : Hp) : List Nat := match rs with
  | [] => []
  | r :: l => (match r T with
    | some (.ptr b _) => match get H b with
      | some (.box cs) => bif pureL cs then [] else rowN H (deepL cs)
      | _ => []
    | some x => bif x.pure then [] else rowN H (deep x)
    | none => []) ++ zsOf l T H
def preF (rs : List Rd) (k : Stm) : Stm := match rs with
  | [] => k
  | rs => fun run n T H O => match zsOf rs T H with
    | [] => k run n T H O
    | Z => match frz Z.eraseDups (frL T) H with
      | some (t, h) => k run n (frOfL t) h O
      | none => k run n T H O
/-- The arguments of calls, traced. -/
def callA (ops : List SOper) : List Operand := ops.flatMap fun o => match o.op with
  | .call _ xs => xs.flatMap (trc ops 8)
  | _ => []
/-- A region: first as it is; where it does not go, the rows that its calls are handed are frozen ahead of it; last, they are given away. -/
def rtyF (rs : List Rd) (k : Bool → Stm) : Stm := match rs with
  | [] => k true
  | rs => fun run n T H O => match k false run n T H O with
    | some x => some x
    | none => match zsOf rs T H with
      | [] => k true run n T H O
      | Z => match frz Z.eraseDups (frL T) H with
        | some (t, h) => match k false run n (frOfL t) h O with
          | some x => some x
          | none => k true run n T H O
        | none => k true run n T H O
def comp : SCode → Stm
  | .skip => skipF
  | .region ops true => rtyF ((callA ops).map rdOp) fun kl => preF ((preO ops).map rdOp) (drawF kl (endD ops.length (befOf ops)) ops 0 [])
  | .region ops false => rtyF ((callA ops).map rdOp) fun kl => opsF kl ops.length ops 0
  | .seq a b => seqF (comp a) (comp b)
  | .cond c x y => condF (rdOp c) (comp x) (comp y)
  | .block id c => blockF id (comp c)
  | .loop c => loopF (comp c) 100000
  | .exit id => exitF id
  | .ret => retF

def allStat : SCode → Bool
  | .region ops true => statOk ops
  | .seq a b => allStat a && allStat b
  | .cond _ a b => allStat a && allStat b
  | .block _ c => allStat c
  | .loop c => allStat c
  | _ => true

/-- The code's meaning at a state: what wpc shows, and more (a state may be weakened before any piece of code). -/
def Wps (P : Program) (sc : SCode) (Q : Exit → St → Prop) (s : St) : Prop := P.follows .mixedOrders = true → ∀ (C : Ctx) (c : Code), stripCode P c = some sc → okCode C.nt sc = true →
  ∀ (K : Exit → Act → World → Prop) (a : Act) (w : World), At C s a w → (∀ e s' a' w', At C s' a' w' → Q e s' → K e a' w') → c.wp P K a w
theorem Wps.of {P : Program} {sc : SCode} {Q : Exit → St → Prop} {s : St} (h : wpc P sc Q s) : Wps P sc Q s :=
  fun hm C c hs hok K a w hA hK => wpc_sound hm c sc hs hok Q K s a w hA h hK
theorem Wps.wk {P : Program} {sc : SCode} {Q : Exit → St → Prop} {s s' : St} (hw : Wk s s') (h : Wps P sc Q s') : Wps P sc Q s :=
  fun hm C c hs hok K a w hA hK => h hm C c hs hok K a w (hw.at hA) hK
theorem Wps.seq {P : Program} {x y : SCode} {Q : Exit → St → Prop} {s : St} (h : Wps P x (seqK (Wps P y Q) Q) s) : Wps P (.seq x y) Q s := by
  intro hm C c hs hok K a w hA hK
  cases c with
  | seq cx cy =>
    simp only [stripCode] at hs
    split at hs
    · rename_i x' hx
      split at hs
      · rename_i y' hy
        cases hs
        simp only [okCode, Bool.and_eq_true] at hok
        refine wp_seq (h hm C cx hx hok.1 _ a w hA fun e s' a' w' hA' hQ => ?_)
        cases e with
        | normal => exact hQ hm C cy hy hok.2 K a' w' hA' hK
        | exit i => exact hK _ _ _ _ hA' hQ
        | goto l => exact hK _ _ _ _ hA' hQ
        | ret => exact hK _ _ _ _ hA' hQ
        | panic ch => exact hK _ _ _ _ hA' hQ
        | outgrown => exact hK _ _ _ _ hA' hQ
      · cases hs
    · cases hs
  | _ => simp only [stripCode] at hs <;> (try split at hs) <;> (try split at hs) <;> cases hs
theorem Wps.cond {P : Program} {c : Operand} {x y : SCode} {Q : Exit → St → Prop} {s : St} {b : Bool} (hb : ev s.t c = some (.v (.bool b))) (h : Wps P (bif b then x else y) Q s) : Wps P (.cond c x y) Q s := by
  intro hm C c' hs hok K a w hA hK
  cases c' with
  | cond c0 cx cy =>
    simp only [stripCode] at hs
    split at hs
    · rename_i x' hx
      split at hs
      · rename_i y' hy
        cases hs
        simp only [okCode, Bool.and_eq_true] at hok
        have hA0 := hA
        obtain ⟨ρ, U, hS, hU⟩ := hA
        have hc := (ev_ok hS.tm hb).v_inv
        refine wp_cond_split hc (fun hb1 => ?_) (fun hb1 => ?_)
        · subst hb1; exact h hm C cx hx hok.1 K a w hA0 hK
        · subst hb1; exact h hm C cy hy hok.2 K a w hA0 hK
      · cases hs
    · cases hs
  | _ => simp only [stripCode] at hs <;> (try split at hs) <;> (try split at hs) <;> cases hs
theorem Wps.block {P : Program} {id : Nat} {x : SCode} {Q : Exit → St → Prop} {s : St} (h : Wps P x (blockK id Q) s) : Wps P (.block id x) Q s := by
  intro hm C c hs hok K a w hA hK
  cases c with
  | block id' cx =>
    simp only [stripCode] at hs
    split at hs
    · rename_i c' hc
      cases hs
      simp only [okCode] at hok
      refine wp_block (h hm C cx hc hok _ a w hA fun e s' a' w' hA' hQ => ?_)
      cases e with
      | exit i =>
        simp only [blockK] at hQ
        simp only [Exit.inBlock]
        split
        · rename_i h; rw [if_pos h] at hQ; exact hK _ _ _ _ hA' hQ
        · rename_i h; rw [if_neg h] at hQ; exact hK _ _ _ _ hA' hQ
      | normal => exact hK _ _ _ _ hA' hQ
      | goto l => exact hK _ _ _ _ hA' hQ
      | ret => exact hK _ _ _ _ hA' hQ
      | panic ch => exact hK _ _ _ _ hA' hQ
      | outgrown => exact hK _ _ _ _ hA' hQ
    · cases hs
  | _ => simp only [stripCode] at hs <;> (try split at hs) <;> (try split at hs) <;> cases hs
theorem Wps.loop {P : Program} {x : SCode} {Q : Exit → St → Prop} {s : St} (h : wpLoop (Wps P x) Q s) : Wps P (.loop x) Q s := by
  intro hm C c hs hok K a w hA hK
  cases c with
  | loop cx =>
    simp only [stripCode] at hs
    split at hs
    · rename_i c' hc
      cases hs
      simp only [okCode] at hok
      obtain ⟨α, S, μ, a0, hW, hb⟩ := h
      refine wp_loop (fun a w => ∃ x, At C (S x) a w) (leastAt C S μ) ⟨a0, hW.at hA⟩ fun a w hI => ?_
      obtain ⟨x0, hx0⟩ := hI
      obtain ⟨_, x, hx, hA'⟩ := leastAt_spec (μ := μ) hx0
      refine hb x hm C cx hc hok _ a w hA' fun e s' a' w' hA'' hQ => ?_
      cases e with
      | normal =>
        obtain ⟨x', hlt, hW'⟩ := hQ
        have h1 := hW'.at hA''
        refine ⟨⟨x', h1⟩, ?_⟩
        have := (leastAt_spec (μ := μ) h1).1
        omega
      | exit i => exact hK _ _ _ _ hA'' hQ
      | goto l => exact hK _ _ _ _ hA'' hQ
      | ret => exact hK _ _ _ _ hA'' hQ
      | panic ch => exact hK _ _ _ _ hA'' hQ
      | outgrown => exact hK _ _ _ _ hA'' hQ
    · cases hs
  | _ => simp only [stripCode] at hs <;> (try split at hs) <;> (try split at hs) <;> cases hs

/-- From s the code comes to e, s'. -/
def Goes (P : Program) (sc : SCode) (s : St) (e : Exit) (s' : St) : Prop := ∀ Q : Exit → St → Prop, Q e s' → Wps P sc Q s
def StmOk (P : Program) (k : Stm) (sc : SCode) : Prop := ∀ run, RunOOk P run → ∀ n T H O e n' T' H' O', k run n T H O = some ⟨e, n', T', H', O'⟩ →
  (∃ L, O' = L ++ O) ∧ (Valid P O' → ∀ t h, View t T → HEq' h H → ∃ t' h', View t' T' ∧ HEq' h' H' ∧ Goes P sc ⟨n, t, h⟩ e ⟨n', t', h'⟩)

theorem loop_of {P : Program} {c : SCode} {s s' : St} {e : Exit} (he : e ≠ .normal) (n : Nat) (S : Nat → St) (h0 : S 0 = s) (h1 : ∀ i, i < n → ∃ s1, Goes P c (S i) .normal s1 ∧ Wk s1 (S (i + 1))) (h2 : Goes P c (S n) e s') : Goes P (.loop c) s e s' := by
  intro Q hQ
  refine Wps.loop ?_
  refine ⟨{i : Nat // i ≤ n}, fun i => S i.1, fun i => n - i.1, ⟨0, Nat.zero_le _⟩, ?_, fun i => ?_⟩
  · simp only [h0]; exact Wk.rfl'
  · obtain ⟨i, hi⟩ := i
    rcases Nat.lt_or_ge i n with hlt | hge
    · obtain ⟨s1, h5, h6⟩ := h1 i hlt
      exact h5 _ ⟨⟨i + 1, hlt⟩, by simp only; omega, h6⟩
    · have : i = n := by omega
      subst this
      refine h2 _ ?_
      cases e with
      | normal => exact absurd rfl he
      | _ => exact hQ

theorem wk_of {n : Nat} {t t2 : List (Nat × AV)} {h h2 : Hp} (hw : WkTH t h t2 h2) : Wk ⟨n, t, h⟩ ⟨n, t2, h2⟩ := by
  intro C ρ U a w hr hU
  obtain ⟨ρ', U', h1, h2⟩ := hw C ρ U a w ⟨hr.hr, hr.defers, hr.sz, hr.tm⟩
  exact ⟨ρ', U', ⟨h1.hr, h1.defers, h1.sz, h1.tm⟩, fun b hb => hU b (h2 b hb)⟩

theorem gcF_some {T : Fr} {H : Hp} {k : Fr → Hp → RR} {r} (h : gcF T H k = some r) : ∃ T2 H2, k T2 H2 = some r ∧ ∀ n t h, View t T → HEq' h H → ∃ t2 h2, View t2 T2 ∧ HEq' h2 H2 ∧ Wk ⟨n, t, h⟩ ⟨n, t2, h2⟩ := by
  have same : k T H = some r → ∃ T2 H2, k T2 H2 = some r ∧ ∀ n t h, View t T → HEq' h H → ∃ t2 h2, View t2 T2 ∧ HEq' h2 H2 ∧ Wk ⟨n, t, h⟩ ⟨n, t2, h2⟩ :=
    fun h => ⟨T, H, h, fun n t h hv hh => ⟨t, h, hv, hh, Wk.rfl'⟩⟩
  unfold gcF at h
  generalize Nat.ble H.length 40 = q at h
  cases q with
  | true => exact same h
  | false =>
    simp only [cond_false] at h
    split at h
    · rename_i t2 h2 hf
      exact ⟨_, _, h, fun n t h1 hv hh => ⟨t2, h2, view_frOfL t2, fun _ => rfl, wk_of (wkth_frL hv hh (frz_ok hf))⟩⟩
    · exact same h

theorem loopF_ok {P : Program} {a : Stm} {c : SCode} (ha : StmOk P a c) (run : RunO) (hrun : RunOOk P run) : ∀ (f : Nat) n T H O e n' T' H' O', loopF a f run n T H O = some ⟨e, n', T', H', O'⟩ →
    (∃ L, O' = L ++ O) ∧ e ≠ .normal ∧ (Valid P O' → ∀ t h, View t T → HEq' h H → ∃ t' h', View t' T' ∧ HEq' h' H' ∧
      ∃ (m : Nat) (S : Nat → St), S 0 = ⟨n, t, h⟩ ∧ (∀ i, i < m → ∃ s1, Goes P c (S i) .normal s1 ∧ Wk s1 (S (i + 1))) ∧ Goes P c (S m) e ⟨n', t', h'⟩) := by
  intro f
  induction f with
  | zero => intro n T H O e n' T' H' O' h; cases h
  | succ f ih =>
    intro n T H O e n' T' H' O' h
    simp only [loopF] at h
    obtain ⟨e1, n1, T1, H1, O1, h1, h⟩ := xB_some h
    obtain ⟨⟨L1, hL1⟩, hs1⟩ := ha run hrun _ _ _ _ _ _ _ _ _ h1
    split at h
    · obtain ⟨T2, H2, h, hgc⟩ := gcF_some h
      obtain ⟨⟨L2, hL2⟩, hne, hs2⟩ := ih _ _ _ _ _ _ _ _ _ h
      refine ⟨⟨L2 ++ L1, by rw [hL2, hL1, List.append_assoc]⟩, hne, fun hv t h3 hvw hh => ?_⟩
      obtain ⟨t1, h4, g1, g2, g3⟩ := hs1 (by rw [hL2] at hv; exact hv.app.2) t h3 hvw hh
      obtain ⟨t2, h5, g4, g5, g6⟩ := hgc n1 t1 h4 g1 g2
      obtain ⟨t', h', g7, g8, m, S, g9, g10, g11⟩ := hs2 hv t2 h5 g4 g5
      refine ⟨t', h', g7, g8, m + 1, fun i => match i with | 0 => ⟨n, t, h3⟩ | i + 1 => S i, rfl, fun i hi => ?_, g11⟩
      cases i with
      | zero => exact ⟨_, g3, by simp only [g9]; exact g6⟩
      | succ i => exact g10 i (by omega)
    · rename_i hne
      simp only [Option.some.injEq, XR.mk.injEq] at h
      obtain ⟨rfl, rfl, rfl, rfl, rfl⟩ := h
      refine ⟨⟨L1, hL1⟩, fun he => hne he, fun hv t h3 hvw hh => ?_⟩
      obtain ⟨t1, h4, g1, g2, g3⟩ := hs1 hv t h3 hvw hh
      exact ⟨t1, h4, g1, g2, 0, fun _ => ⟨n, t, h3⟩, rfl, fun i hi => absurd hi (by omega), g3⟩

theorem and1 {a b : Bool} (h : (a && b) = true) : a = true := by cases a <;> simp_all
theorem and2 {a b : Bool} (h : (a && b) = true) : b = true := by cases a <;> simp_all
theorem rtyF_ok {P : Program} {rs : List Rd} {k : Bool → Stm} {sc : SCode} (hk : ∀ kl, StmOk P (k kl) sc) : StmOk P (rtyF rs k) sc := by
  intro run hrun n T H O e n' T' H' O' h
  cases rs with
  | nil => exact hk true run hrun _ _ _ _ _ _ _ _ _ h
  | cons r rs =>
    simp only [rtyF] at h
    split at h
    · rename_i x hx
      cases h
      exact hk false run hrun _ _ _ _ _ _ _ _ _ hx
    · split at h
      · exact hk true run hrun _ _ _ _ _ _ _ _ _ h
      · split at h
        · rename_i t2 h2 hf
          split at h
          · rename_i x hx
            cases h
            obtain ⟨h1, h3⟩ := hk false run hrun _ _ _ _ _ _ _ _ _ hx
            refine ⟨h1, fun hv t h4 hvw hh => ?_⟩
            obtain ⟨t', h', h5, h6, h7⟩ := h3 hv t2 h2 (view_frOfL t2) (fun _ => rfl)
            exact ⟨t', h', h5, h6, fun Q hQ => (h7 Q hQ).wk (wk_of (wkth_frL hvw hh (frz_ok hf)))⟩
          · exact hk true run hrun _ _ _ _ _ _ _ _ _ h
        · exact hk true run hrun _ _ _ _ _ _ _ _ _ h
theorem comp_ok {P : Program} : ∀ (sc : SCode), allStat sc = true → StmOk P (comp sc) sc
  | .skip => by
    intro hst run hrun n T H O e n' T' H' O' h
    simp only [comp, skipF, Option.some.injEq, XR.mk.injEq] at h
    obtain ⟨rfl, rfl, rfl, rfl, rfl⟩ := h
    exact ⟨⟨[], rfl⟩, fun _ t h hv hh => ⟨t, h, hv, hh, fun Q hQ => Wps.of hQ⟩⟩
  | .exit i => by
    intro hst run hrun n T H O e n' T' H' O' h
    simp only [comp, exitF, Option.some.injEq, XR.mk.injEq] at h
    obtain ⟨rfl, rfl, rfl, rfl, rfl⟩ := h
    exact ⟨⟨[], rfl⟩, fun _ t h hv hh => ⟨t, h, hv, hh, fun Q hQ => Wps.of hQ⟩⟩
  | .ret => by
    intro hst run hrun n T H O e n' T' H' O' h
    simp only [comp, retF, Option.some.injEq, XR.mk.injEq] at h
    obtain ⟨rfl, rfl, rfl, rfl, rfl⟩ := h
    exact ⟨⟨[], rfl⟩, fun _ t h hv hh => ⟨t, h, hv, hh, fun Q hQ => Wps.of hQ⟩⟩
  | .region ops true => by
    intro hst
    simp only [comp]
    apply rtyF_ok
    intro kl run hrun n T H O e n' T' H' O' h
    have main : ∀ T H, drawF kl (endD ops.length (befOf ops)) ops 0 [] run n T H O = some ⟨e, n', T', H', O'⟩ → (∃ L, O' = L ++ O) ∧ (Valid P O' → ∀ t h, View t T → HEq' h H → ∃ t' h', View t' T' ∧ HEq' h' H' ∧ Goes P (.region ops true) ⟨n, t, h⟩ e ⟨n', t', h'⟩) := by
      intro T H h
      obtain ⟨h1, ⟨rfl, rfl⟩, h2⟩ := drawF_ok (endD_ok hst) ops 0 run hrun _ _ _ _ _ _ _ _ _ _ (by simp) h
      refine ⟨h1, fun hv t h hvw hh => ?_⟩
      obtain ⟨t', h', h3, h4, h5⟩ := h2 hv t h hvw hh
      refine ⟨t', h', h3, h4, fun Q hQ => Wps.of ?_⟩
      simp only [wpc, if_true, wpDraw]
      exact h5 (fun t h => Q .normal ⟨n + 8 * ops.length, t, h⟩) hQ
    cases hrs : (preO ops).map rdOp with
    | nil => rw [hrs] at h; exact main T H h
    | cons r rs =>
      rw [hrs] at h
      simp only [preF] at h
      split at h
      · exact main T H h
      · split at h
        · rename_i t2 h2 hf
          obtain ⟨h1, h3⟩ := main _ _ h
          refine ⟨h1, fun hv t h4 hvw hh => ?_⟩
          obtain ⟨t', h', h5, h6, h7⟩ := h3 hv t2 h2 (view_frOfL t2) (fun _ => rfl)
          exact ⟨t', h', h5, h6, fun Q hQ => (h7 Q hQ).wk (wk_of (wkth_frL hvw hh (frz_ok hf)))⟩
        · exact main T H h
  | .region ops false => by
    intro hst
    simp only [comp]
    apply rtyF_ok
    intro kl run hrun n T H O e n' T' H' O' h
    obtain ⟨h1, ⟨rfl, rfl⟩, h2⟩ := opsF_ok ops 0 run hrun _ _ _ _ _ _ _ _ _ h
    refine ⟨h1, fun hv t h hvw hh => ?_⟩
    obtain ⟨t', h', h3, h4, h5⟩ := h2 hv t h hvw hh
    refine ⟨t', h', h3, h4, fun Q hQ => Wps.of ?_⟩
    simp only [wpc, Bool.false_eq_true, if_false]
    exact h5 (fun t h => Q .normal ⟨n + 8 * ops.length, t, h⟩) hQ
  | .seq a b => by
    intro hst run hrun n T H O e n' T' H' O' h
    simp only [comp, seqF] at h
    obtain ⟨e1, n1, T1, H1, O1, h1, h⟩ := xB_some h
    obtain ⟨⟨L1, hL1⟩, hs1⟩ := comp_ok a (and1 hst) run hrun _ _ _ _ _ _ _ _ _ h1
    split at h
    · obtain ⟨⟨L2, hL2⟩, hs2⟩ := comp_ok b (and2 hst) run hrun _ _ _ _ _ _ _ _ _ h
      refine ⟨⟨L2 ++ L1, by rw [hL2, hL1, List.append_assoc]⟩, fun hv t h hvw hh => ?_⟩
      obtain ⟨t1, h4, g1, g2, g3⟩ := hs1 (by rw [hL2] at hv; exact hv.app.2) t h hvw hh
      obtain ⟨t2, h5, g4, g5, g6⟩ := hs2 hv t1 h4 g1 g2
      exact ⟨t2, h5, g4, g5, fun Q hQ => Wps.seq (g3 _ (g6 _ hQ))⟩
    · rename_i hne
      simp only [Option.some.injEq, XR.mk.injEq] at h
      obtain ⟨rfl, rfl, rfl, rfl, rfl⟩ := h
      refine ⟨⟨L1, hL1⟩, fun hv t h hvw hh => ?_⟩
      obtain ⟨t1, h4, g1, g2, g3⟩ := hs1 hv t h hvw hh
      refine ⟨t1, h4, g1, g2, fun Q hQ => Wps.seq (g3 _ ?_)⟩
      cases e1 with
      | normal => exact absurd rfl hne
      | _ => exact hQ
  | .cond c x y => by
    intro hst run hrun n T H O e n' T' H' O' h
    simp only [comp, condF] at h
    obtain ⟨v, hv0, h⟩ := oB_some h
    split at h
    · obtain ⟨h1, h2⟩ := comp_ok x (and1 hst) run hrun _ _ _ _ _ _ _ _ _ h
      refine ⟨h1, fun hv t h hvw hh => ?_⟩
      obtain ⟨t', h', h3, h4, h5⟩ := h2 hv t h hvw hh
      exact ⟨t', h', h3, h4, fun Q hQ => Wps.cond (b := true) (rdOp_ok c T _ hv0 t hvw) (h5 Q hQ)⟩
    · obtain ⟨h1, h2⟩ := comp_ok y (and2 hst) run hrun _ _ _ _ _ _ _ _ _ h
      refine ⟨h1, fun hv t h hvw hh => ?_⟩
      obtain ⟨t', h', h3, h4, h5⟩ := h2 hv t h hvw hh
      exact ⟨t', h', h3, h4, fun Q hQ => Wps.cond (b := false) (rdOp_ok c T _ hv0 t hvw) (h5 Q hQ)⟩
    · cases h
  | .block id c => by
    intro hst run hrun n T H O e n' T' H' O' h
    simp only [comp, blockF] at h
    obtain ⟨e1, n1, T1, H1, O1, h1, h⟩ := xB_some h
    obtain ⟨⟨L1, hL1⟩, hs1⟩ := comp_ok c hst run hrun _ _ _ _ _ _ _ _ _ h1
    split at h
    · rename_i i
      cases hb : Nat.beq i id with
      | true =>
        rw [hb] at h
        simp only [cond_true, Option.some.injEq, XR.mk.injEq] at h
        obtain ⟨rfl, rfl, rfl, rfl, rfl⟩ := h
        refine ⟨⟨L1, hL1⟩, fun hv t h hvw hh => ?_⟩
        obtain ⟨t1, h4, g1, g2, g3⟩ := hs1 hv t h hvw hh
        refine ⟨t1, h4, g1, g2, fun Q hQ => Wps.block (g3 _ ?_)⟩
        simp only [blockK, if_pos (Nat.eq_of_beq_eq_true hb)]
        exact hQ
      | false =>
        rw [hb] at h
        simp only [cond_false, Option.some.injEq, XR.mk.injEq] at h
        obtain ⟨rfl, rfl, rfl, rfl, rfl⟩ := h
        refine ⟨⟨L1, hL1⟩, fun hv t h hvw hh => ?_⟩
        obtain ⟨t1, h4, g1, g2, g3⟩ := hs1 hv t h hvw hh
        refine ⟨t1, h4, g1, g2, fun Q hQ => Wps.block (g3 _ ?_)⟩
        simp only [blockK, if_neg (Nat.ne_of_beq_eq_false hb)]
        exact hQ
    · rename_i hne
      simp only [Option.some.injEq, XR.mk.injEq] at h
      obtain ⟨rfl, rfl, rfl, rfl, rfl⟩ := h
      refine ⟨⟨L1, hL1⟩, fun hv t h hvw hh => ?_⟩
      obtain ⟨t1, h4, g1, g2, g3⟩ := hs1 hv t h hvw hh
      refine ⟨t1, h4, g1, g2, fun Q hQ => Wps.block (g3 _ ?_)⟩
      cases e1 with
      | exit i => exact absurd rfl (hne i)
      | _ => exact hQ
  | .loop c => by
    intro hst run hrun n T H O e n' T' H' O' h
    simp only [comp] at h
    obtain ⟨h1, hne, h2⟩ := loopF_ok (comp_ok c hst) run hrun _ _ _ _ _ _ _ _ _ _ h
    refine ⟨h1, fun hv t h hvw hh => ?_⟩
    obtain ⟨t', h', h3, h4, m, S, g1, g2, g3⟩ := h2 hv t h hvw hh
    exact ⟨t', h', h3, h4, loop_of hne m S g1 g2 g3⟩

/-! Functions. -/
def retK (T : Fr) (H : Hp) (l : List SRes) (k : List AV → Option RO) : Option RO := match l with
  | [] => k []
  | .tmp j :: l => match rdT j T with
    | some x => retK T H l fun xs => k (x :: xs)
    | none => none
  | .cell j ag sz :: l => match rdT j T with
    | some (.ptr b 0) => match get H b with
      | some (.box cs) => bif ag then (bif Nat.beq sz cs.length then retK T H l fun xs => k (.agg cs :: xs) else none) else match cs with
        | c :: _ => retK T H l fun xs => k (c :: xs)
        | [] => none
      | _ => none
    | _ => none
theorem retK_some {T : Fr} {H : Hp} : ∀ {l : List SRes} {k : List AV → Option RO} {r}, retK T H l k = some r → ∃ vs, k vs = some r ∧ ∀ t, View t T → retV t H l = some vs
  | [], k, r, h => ⟨[], h, fun t _ => rfl⟩
  | .tmp j :: l, k, r, h => by
    simp only [retK] at h
    split at h
    · rename_i x hx
      obtain ⟨vs, hk, hv⟩ := retK_some h
      exact ⟨x :: vs, hk, fun t ht => by simp only [retV, ht _ _ (rdT_get hx), hv t ht]⟩
    · cases h
  | .cell j ag sz :: l, k, r, h => by
    simp only [retK] at h
    split at h
    · rename_i b hx
      split at h
      · rename_i cs hg
        cases ag with
        | true =>
          simp only [cond_true] at h
          cases hb : Nat.beq sz cs.length with
          | false => rw [hb] at h; cases h
          | true =>
            rw [hb] at h
            obtain ⟨vs, hk, hv⟩ := retK_some h
            exact ⟨.agg cs :: vs, hk, fun t ht => by simp only [retV, ht _ _ (rdT_get hx), hv t ht, hg, if_true, if_pos (Nat.eq_of_beq_eq_true hb)]⟩
        | false =>
          simp only [cond_false] at h
          split at h
          · rename_i c cs1
            obtain ⟨vs, hk, hv⟩ := retK_some h
            exact ⟨c :: vs, hk, fun t ht => by simp only [retV, ht _ _ (rdT_get hx), hv t ht, hg, Bool.false_eq_true, if_false]⟩
          · cases h
      · cases h
    · cases h

structure FunF where
  st : Stm
  res : List SRes
  nt : Nat
  dp : Bool
def FunFOk (P : Program) (f : FuncId) (F : FunF) : Prop := ∃ sc, StmOk P F.st sc ∧ FnOk P f sc F.res F.nt

def outs' (bs : List (List AV)) (gs : List Ob) : Hp := match bs, gs with
  | [], [] => []
  | bs, gs => outs bs gs
theorem outs'_eq (bs : List (List AV)) (gs : List Ob) : outs' bs gs = outs bs gs := by
  unfold outs'
  split <;> rfl
def runS (F : FunF) (run : RunO) (xs : List AV) (H : Hp) : Option RO := match F.st run 8 (frOf xs 0 fr0) H [] with
  | some ⟨.normal, n, T, H, O⟩ => retK T H F.res fun vs => some ⟨vs, H, O, F.dp⟩
  | some ⟨.ret, n, T, H, O⟩ => retK T H F.res fun vs => some ⟨vs, H, O, F.dp⟩
  | _ => none

abbrev Hook := FuncId → List AV → List (List AV) → Option (AV × List (List AV))
def noHook : Hook := fun _ _ _ => none

/-- The end of a function, where the heap may be told otherwise. -/
theorem FnG.of_wpc {P : Program} {f : FuncId} {sc : SCode} {res : List SRes} {nt : Nat} (hok : FnOk P f sc res nt) {xs : List AV} {bs : List (List AV)} {gs : List Ob} {r : AV} {bs' : List (List AV)} {es : List Ob} {Q : Exit → St → Prop}
    (hQ : ∀ e s, Q e s → (e = .normal ∨ e = .ret) ∧ ∃ H, HEq' s.h H ∧ Fin res r bs' es s.t H)
    (hn : xs.length ≤ nt) (hgo : Wps P sc Q ⟨8, tFrom 0 xs, outs bs gs⟩) : FnG P f xs bs gs r bs' es := by
  obtain ⟨⟨fn, c, hf, hnm, hb, hs, hres, hr4, rfl⟩, hoc, hm⟩ := hok
  refine ⟨⟨fn, hf, hnm, by rw [hb]; rfl⟩, fun C ρ U w vals hr hU hv => ?_⟩
  let C1 : Ctx := { C with nt := fn.ntmps }
  have hr1 : HR C1 ρ U (outs bs gs) w := ⟨hr.hp, hr.hd, hr.inj, hr.os, hr.tape, hr.output, hr.size, hr.old, hr.okl, hr.ownl, hr.fix⟩
  refine calls_of_wp hf hb (hgo hm C1 c hs hoc _ _ w ⟨ρ, U, ⟨hr1, fun k x hk => ?_, rfl, ?_⟩, fun b hb => hU b hb⟩ fun e s a w' hA hq => ?_)
  · rw [get_tFrom] at hk
    simp only [Nat.zero_le, if_true, Nat.sub_zero] at hk
    have hlt : k < vals.size := by rw [← hv.1]; exact (List.getElem?_eq_some_iff.1 hk).1
    refine ⟨vals[k], ?_, hv.2 k x _ hk (Array.getElem?_eq_getElem hlt)⟩
    simp [Array.getElem?_append, hlt]
  · have := hv.1
    simp only [Array.size_append, Array.size_replicate]
    show _ = fn.ntmps
    omega
  · obtain ⟨he, H, hh, hF⟩ := hQ e s hq
    have fin : a.defers = [] ∧ ∃ v, (results fn a.tmps).run P w' = .ok v w' ∧ ∃ v_1 ρ' U', Ending.returned v = Ending.returned v_1 ∧ HR C ρ' U' (outs bs' es) w' ∧ VR w' (okc C ρ' w') ρ' U' r v_1 := by
      obtain ⟨S, N, ys, h1, h2, h3, h4, h5⟩ := hF
      obtain ⟨ρ1, U1, hS0, _⟩ := hA
      have hSr := hS0.hr.heq hh
      obtain ⟨vs, h6, h7, h8, h9⟩ := retV_ok (P := P) hSr hS0.tm fn.results.toList res ys hres h1
      refine ⟨hS0.defers, _, results_eq a.tmps w' rfl h6 hr4 h8, _, newLoc ρ1 S N, newU S N, rfl, ?_, ?_⟩
      · have := rv_hr hSr h2 h3 h4
        exact ⟨this.hp, this.hd, this.inj, this.os, this.tape, this.output, this.size, this.old, this.okl, this.ownl, this.fix⟩
      · exact rv_vr hSr (retOne_ok (by omega) h9) r h5
    rcases he with rfl | rfl
    · exact fin
    · exact fin

/-- A fact, weakened by the end of a function. -/
theorem FnG.of_use {P : Program} {f : FuncId} {xs : List AV} {bs : List (List AV)} {r : AV} {bs' : List (List AV)} (hF : FnG P f xs bs [] r bs' []) {r1 : AV} {bs1 : List (List AV)} {es1 : List Ob}
    (hfin : Fin [.tmp 0] r1 bs1 es1 [(0, r)] (outs bs' [])) : FnG P f xs bs [] r1 bs1 es1 := by
  refine ⟨hF.1, fun C ρ U w vals hr hU hv => ?_⟩
  obtain ⟨S, N, ys, h1, h2, h3, h4, h5⟩ := hfin
  have hys : ys = [r] := by simpa [retV, get] using h1.symm
  subst hys
  refine (hF.2 C ρ U w vals hr hU hv).mono fun e w' hp => ?_
  obtain ⟨v, ρ', U', rfl, g1, g2⟩ := hp
  exact ⟨v, newLoc ρ' S N, newU S N, rfl, rv_hr g1 h2 h3 h4, rv_vr g1 g2 r1 h5⟩

/-- What a function that has no code here gives, shown once for all. -/
def SmOk (P : Program) (sm : Hook) : Prop := ∀ f xs bs r bs', sm f xs bs = some (r, bs') → FnG P f xs bs [] r bs' []
theorem noHook_ok {P : Program} : SmOk P noHook := fun _ _ _ _ _ h => by cases h
def runFx (hook : Hook) (hs : List FuncId) (sm : Hook) (code : FuncId → Option FunF) : Nat → RunO
  | 0 => fun _ _ _ _ => none
  | k + 1 => fun f xs bs gs => bif memL f hs then (match gs with
      | [] => match hook f xs bs with
        | some (r, bs') => some ⟨[r], outs' bs' [], [⟨f, xs, bs, r, bs'⟩], false⟩
        | none => none
      | _ => none)
    else match code f with
    | some F => bif Nat.ble xs.length F.nt then runS F (runFx hook hs sm code k) xs (outs' bs gs) else none
    | none => match gs with
      | [] => match sm f xs bs with
        | some (r, bs') => some ⟨[r], outs' bs' [], [], false⟩
        | none => none
      | _ => none

def CodeFOk (P : Program) (code : FuncId → Option FunF) : Prop := ∀ f F, code f = some F → FunFOk P f F
theorem runFx_ok {P : Program} {hook : Hook} {hs : List FuncId} {sm : Hook} {code : FuncId → Option FunF} (hsm : SmOk P sm) (hc : CodeFOk P code) : ∀ k, RunOOk P (runFx hook hs sm code k) := by
  intro k
  induction k with
  | zero => intro f xs bs gs vs h O dp e; cases e
  | succ k ih =>
    intro f xs bs gs vs h O dp e hv
    simp only [runFx] at e
    generalize memL f hs = q at e
    cases q with
    | true =>
      simp only [cond_true] at e
      split at e
      · split at e
        · rename_i r bs' hk
          simp only [Option.some.injEq, RO.mk.injEq] at e
          obtain ⟨rfl, rfl, rfl, rfl⟩ := e
          refine ⟨[(0, r)], [.tmp 0], by simp [retV, get], fun r1 bs1 es1 hF => ?_⟩
          rw [outs'_eq] at hF
          exact FnG.of_use (hv ⟨f, xs, bs, r, bs'⟩ (by simp)) hF
        · cases e
      · cases e
    | false =>
      simp only [cond_false] at e
      split at e
      · rename_i F hF
        cases hl : Nat.ble xs.length F.nt with
        | false => rw [hl] at e; cases e
        | true =>
          rw [hl] at e
          simp only [cond_true, outs'_eq] at e
          obtain ⟨sc, hst, hok⟩ := hc f F hF
          have key : ∀ (ex : Exit) n T H O1, (ex = .normal ∨ ex = .ret) → F.st (runFx hook hs sm code k) 8 (frOf xs 0 fr0) (outs bs gs) [] = some ⟨ex, n, T, H, O1⟩ → (retK T H F.res fun vs => some ⟨vs, H, O1, F.dp⟩) = some ⟨vs, h, O, dp⟩ →
              ∃ t res, retV t h res = some vs ∧ ∀ r bs' es, Fin res r bs' es t h → FnG P f xs bs gs r bs' es := by
            intro ex n T H O1 hex h1 h2
            obtain ⟨vs1, h3, h4⟩ := retK_some h2
            simp only [Option.some.injEq, RO.mk.injEq] at h3
            obtain ⟨rfl, rfl, rfl, rfl⟩ := h3
            obtain ⟨_, hs⟩ := hst _ ih _ _ _ _ _ _ _ _ _ h1
            obtain ⟨t', h', g1, g2, g3⟩ := hs hv (tFrom 0 xs) (outs bs gs) (view_frOf xs) (fun _ => rfl)
            refine ⟨t', F.res, h4 t' g1, fun r bs' es hFin => ?_⟩
            refine FnG.of_wpc (Q := fun e s => e = ex ∧ s = ⟨n, t', h'⟩) hok (fun e s hes => ?_) (Nat.le_of_ble_eq_true hl) (g3 _ ⟨rfl, rfl⟩)
            obtain ⟨rfl, rfl⟩ := hes
            exact ⟨hex, H, g2, hFin⟩
          unfold runS at e
          split at e
          · rename_i h1; exact key _ _ _ _ _ (.inl rfl) h1 e
          · rename_i h1; exact key _ _ _ _ _ (.inr rfl) h1 e
          · cases e
      · split at e
        · split at e
          · rename_i r bs' hk
            simp only [Option.some.injEq, RO.mk.injEq] at e
            obtain ⟨rfl, rfl, rfl, rfl⟩ := e
            refine ⟨[(0, r)], [.tmp 0], by simp [retV, get], fun r1 bs1 es1 hF => ?_⟩
            rw [outs'_eq] at hF
            exact FnG.of_use (hsm _ _ _ _ _ hk) hF
          · cases e
        · cases e

/-- A function at pure arguments, run. -/
def callF (hook : Hook) (hs : List FuncId) (sm : Hook) (code : FuncId → Option FunF) (k : Nat) (f : FuncId) (xs : List AV) : Option (AV × List Use) := match runFx hook hs sm code k f xs [] [] with
  | some ⟨vs, h, O, _⟩ => match finG 0 [] vs h with
    | some (r, _, _) => some (r, O)
    | none => none
  | none => none
theorem callF_ok {P : Program} {hook : Hook} {hs : List FuncId} {sm : Hook} {code : FuncId → Option FunF} (hsm : SmOk P sm) (hc : CodeFOk P code) {k : Nat} {f : FuncId} {xs : List AV} {r : AV} {O : List Use} (e : callF hook hs sm code k f xs = some (r, O)) (hv : Valid P O) : FnG P f xs [] [] r [] [] := by
  simp only [callF] at e
  split at e
  · rename_i vs h O1 dp hr
    split at e
    · rename_i r' b es hP
      simp only [Option.some.injEq, Prod.mk.injEq] at e
      obtain ⟨rfl, rfl⟩ := e
      obtain ⟨t, res, hrv, hrun⟩ := runFx_ok hsm hc k _ _ _ _ _ _ _ _ hr hv
      obtain ⟨hF, hl, _⟩ := finG_ok hrv hP
      have hb0 : b = [] := List.length_eq_zero_iff.1 hl
      subst hb0
      have he0 : es = [] := finG_nil hP
      subst he0
      exact hrun _ _ _ hF
    · cases e
  · cases e
end Go.Eng

set_option linter.unusedSimpArgs false
set_option linter.unusedVariables false
namespace Go.Eng
open Go

def N16.allI {α : Type} (p : Nat → α → Prop) (n : N16 α) : Prop :=
  p 0 n.a0 ∧ p 1 n.a1 ∧ p 2 n.a2 ∧ p 3 n.a3 ∧ p 4 n.a4 ∧ p 5 n.a5 ∧ p 6 n.a6 ∧ p 7 n.a7 ∧ p 8 n.a8 ∧ p 9 n.a9 ∧ p 10 n.a10 ∧ p 11 n.a11 ∧ p 12 n.a12 ∧ p 13 n.a13 ∧ p 14 n.a14 ∧ p 15 n.a15
theorem N16.allI_get {α : Type} {p : Nat → α → Prop} {n : N16 α} (h : n.allI p) {k : Nat} (hk : k < 16) : p k (n.get k) := by
  obtain ⟨h0, h1, h2, h3, h4, h5, h6, h7, h8, h9, h10, h11, h12, h13, h14, h15⟩ := h
  rcases lt16 hk with rfl | rfl | rfl | rfl | rfl | rfl | rfl | rfl | rfl | rfl | rfl | rfl | rfl | rfl | rfl | rfl <;> assumption

def OptOk (P : Program) (f : FuncId) (x : Option FunF) : Prop := ∀ F, x = some F → FunFOk P f F
theorem OptOk.none {P : Program} {f : FuncId} : OptOk P f none := fun F h => by cases h
theorem OptOk.some {P : Program} {f : FuncId} {sc : SCode} {st : Stm} {res : List SRes} {nt : Nat} {dp : Bool} (h : FnOk P f sc res nt) (hst : allStat sc = true) (hc : st = comp sc) : OptOk P f (some ⟨st, res, nt, dp⟩) := fun F e => by
  cases e
  exact ⟨sc, hc ▸ comp_ok sc hst, h⟩
def codeOf (tab : N16 (N16 (N16 (Option FunF)))) (f : Nat) : Option FunF := bif Nat.blt f 4096 then ((tab.get (f / 256)).get (f / 16 % 16)).get (f % 16) else none
theorem codeOf_ok {P : Program} {tab : N16 (N16 (N16 (Option FunF)))} (h : tab.allI (fun g n => n.allI (fun i n => n.allI (fun j x => OptOk P (g * 256 + i * 16 + j) x)))) : CodeFOk P (codeOf tab) := by
  have key : ∀ (f : Nat) (F : FunF), codeOf tab f = some F → FunFOk P f F := by
    intro f F e
    unfold codeOf at e
    cases hb : Nat.blt f 4096 with
    | false => rw [hb] at e; cases e
    | true =>
      rw [hb] at e
      have hf : f < 4096 := blt_lt hb
      have h1 := N16.allI_get (N16.allI_get (N16.allI_get h (show f / 256 < 16 by omega)) (show f / 16 % 16 < 16 by omega)) (show f % 16 < 16 by omega)
      have h2 := h1 F e
      rw [show f / 256 * 256 + f / 16 % 16 * 16 + f % 16 = f by omega] at h2
      exact h2
  exact key
def rowZ : N16 (Option FunF) := ⟨none, none, none, none, none, none, none, none, none, none, none, none, none, none, none, none⟩
def pageZ : N16 (N16 (Option FunF)) := ⟨rowZ, rowZ, rowZ, rowZ, rowZ, rowZ, rowZ, rowZ, rowZ, rowZ, rowZ, rowZ, rowZ, rowZ, rowZ, rowZ⟩
theorem rowZ_ok {p : Nat → Option FunF → Prop} (h : ∀ j, p j none) : rowZ.allI p := ⟨h _, h _, h _, h _, h _, h _, h _, h _, h _, h _, h _, h _, h _, h _, h _, h _⟩
theorem pageZ_ok {P : Program} {g : Nat} : pageZ.allI (fun i n => n.allI (fun j x => OptOk P (g * 256 + i * 16 + j) x)) :=
  have h : ∀ i, rowZ.allI (fun j x => OptOk P (g * 256 + i * 16 + j) x) := fun i => rowZ_ok fun j => OptOk.none
  ⟨h _, h _, h _, h _, h _, h _, h _, h _, h _, h _, h _, h _, h _, h _, h _, h _⟩
end Go.Eng

set_option linter.unusedSimpArgs false
set_option linter.unusedVariables false
namespace Go.Eng
open Go

/-- The end of a function, where the heap may be told otherwise. -/
def finH (res : List SRes) (r : AV) (bs' : List (List AV)) (es : List Ob) (e : Exit) (s : St) : Prop := (e = .normal ∨ e = .ret) ∧ ∃ H, HEq' s.h H ∧ Fin res r bs' es s.t H
theorem finH.mk {res : List SRes} {r : AV} {bs' : List (List AV)} {es : List Ob} {s : St} (h : Fin res r bs' es s.t s.h) : finH res r bs' es .normal s := ⟨.inl rfl, _, fun _ => rfl, h⟩
theorem finH.mkR {res : List SRes} {r : AV} {bs' : List (List AV)} {es : List Ob} {s : St} (h : Fin res r bs' es s.t s.h) : finH res r bs' es .ret s := ⟨.inr rfl, _, fun _ => rfl, h⟩

theorem Wps.mono {P : Program} {sc : SCode} {Q Q' : Exit → St → Prop} {s : St} (hq : ∀ e s, Q e s → Q' e s) (h : Wps P sc Q s) : Wps P sc Q' s :=
  fun hm C c hs hok K a w hA hK => h hm C c hs hok K a w hA fun e s' a' w' hA' hQ => hK e s' a' w' hA' (hq e s' hQ)

def wkS (P : Program) (Q : Exit → St → Prop) (rest : SCode) : Exit → St → Prop
  | .normal, s => Wps P rest Q s
  | e, s => Q e s
theorem goX_codesS {P : Program} {Q : Exit → St → Prop} {id : Nat} : ∀ (l : List SCode), goN.goX P Q id (l.map It.code) = Q (.exit id)
  | [] => rfl
  | _ :: l => goX_codesS l
theorem Wps.sqs {P : Program} {Q : Exit → St → Prop} {rest : SCode} : ∀ (l : List SCode) (s : St), goN P (wkS P Q rest) (l.map It.code) s → Wps P (sqs l rest) Q s
  | [], s, h => h
  | x :: l, s, h => by
    show Wps P (.seq x (Eng.sqs l rest)) Q s
    refine Wps.seq (Wps.mono ?_ (Wps.of (show wpc P x _ s from h)))
    intro e s' hQ
    cases e with
    | normal => exact Wps.sqs l s' hQ
    | exit i =>
      have hQ : goN.goX P (wkS P Q rest) i (l.map It.code) s' := hQ
      rw [goX_codesS] at hQ
      exact hQ
    | goto l => exact hQ
    | ret => exact hQ
    | panic ch => exact hQ
    | outgrown => exact hQ

theorem FnG.of_parts {P : Program} {f : FuncId} {l : List SCode} {rest : SCode} {res : List SRes} {nt : Nat} (hok : FnOk P f (sqs l rest) res nt) {xs : List AV} {bs : List (List AV)} {gs : List Ob} {r : AV} {bs' : List (List AV)} {es : List Ob}
    (hn : xs.length ≤ nt) (hgo : go P (l.map It.code) (wkS P (finH res r bs' es) rest) 8 (tFrom 0 xs) (outs bs gs)) : FnG P f xs bs gs r bs' es :=
  FnG.of_wpc hok (fun e s h => h) hn (Wps.sqs l _ hgo)

def endK (x : RR) (res : List SRes) : Option (AV × List Use) := match x with
  | some ⟨e, n, T, H, O⟩ => match (match e with | .normal => true | .ret => true | _ => false) with
    | true => match retK T H res (fun vs => some ⟨vs, H, O, false⟩) with
      | some ⟨vs, h, O, _⟩ => match finG 0 [] vs h with
        | some (r, _, _) => some (r, O)
        | none => none
      | none => none
    | false => none
  | none => none
theorem Wps.run {P : Program} {run : RunO} (hrun : RunOOk P run) {st : Stm} {sc : SCode} (hst : StmOk P st sc) {n : Nat} {t : List (Nat × AV)} {h : Hp} {res : List SRes} {T : Fr} {H : Hp} {r : AV} {O : List Use} (hv : View t T) (hh : HEq' h H)
    (e : endK (st run n T H []) res = some (r, O)) (hval : Valid P O) : Wps P sc (finH res r [] []) ⟨n, t, h⟩ := by
  unfold endK at e
  split at e
  · rename_i x ex n1 T1 H1 O1 hx
    split at e
    · rename_i hex
      split at e
      · rename_i vs h1 O2 dp hr
        obtain ⟨vs1, h3, h4⟩ := retK_some hr
        simp only [Option.some.injEq, RO.mk.injEq] at h3
        obtain ⟨rfl, rfl, rfl, rfl⟩ := h3
        split at e
        · rename_i r' b es hP
          simp only [Option.some.injEq, Prod.mk.injEq] at e
          obtain ⟨rfl, rfl⟩ := e
          obtain ⟨_, hs⟩ := hst run hrun _ _ _ _ _ _ _ _ _ hx
          obtain ⟨t', h', g1, g2, g3⟩ := hs hval t h hv hh
          obtain ⟨hF, hl, _⟩ := finG_ok (h4 t' g1) hP
          have hb0 : b = [] := List.length_eq_zero_iff.1 hl
          subst hb0
          have he0 : es = [] := finG_nil hP
          subst he0
          refine g3 _ ⟨?_, _, g2, hF⟩
          cases ex <;> simp_all
        · cases e
      · cases e
    · cases e
  · cases e
theorem View.sub {t t' : List (Nat × AV)} {T : Fr} (hv : View t' T) (h : ∀ k x, get t' k = some x → get t k = some x) : View t T := fun k x hk => h k x (hv k x hk)
end Go.Eng

namespace Go.Eng
open Go

def rt0 : Rd := rd2 N16.p0 N16.p0
def rt1 : Rd := rd2 N16.p0 N16.p1
def rt2 : Rd := rd2 N16.p0 N16.p2
def rt3 : Rd := rd2 N16.p0 N16.p3
def rt4 : Rd := rd2 N16.p0 N16.p4
def rt5 : Rd := rd2 N16.p0 N16.p5
def rt6 : Rd := rd2 N16.p0 N16.p6
def rt7 : Rd := rd2 N16.p0 N16.p7
def rt8 : Rd := rd2 N16.p0 N16.p8
def rt9 : Rd := rd2 N16.p0 N16.p9
def rt10 : Rd := rd2 N16.p0 N16.p10
def rt11 : Rd := rd2 N16.p0 N16.p11
def rt12 : Rd := rd2 N16.p0 N16.p12
def rt13 : Rd := rd2 N16.p0 N16.p13
def rt14 : Rd := rd2 N16.p0 N16.p14
def rt15 : Rd := rd2 N16.p0 N16.p15
def rt16 : Rd := rd2 N16.p1 N16.p0
def rt17 : Rd := rd2 N16.p1 N16.p1
def rt18 : Rd := rd2 N16.p1 N16.p2
def rt19 : Rd := rd2 N16.p1 N16.p3
def rt20 : Rd := rd2 N16.p1 N16.p4
def rt21 : Rd := rd2 N16.p1 N16.p5
def rt22 : Rd := rd2 N16.p1 N16.p6
def rt23 : Rd := rd2 N16.p1 N16.p7
def rt24 : Rd := rd2 N16.p1 N16.p8
def rt25 : Rd := rd2 N16.p1 N16.p9
def rt26 : Rd := rd2 N16.p1 N16.p10
def rt27 : Rd := rd2 N16.p1 N16.p11
def rt28 : Rd := rd2 N16.p1 N16.p12
def rt29 : Rd := rd2 N16.p1 N16.p13
def rt30 : Rd := rd2 N16.p1 N16.p14
def rt31 : Rd := rd2 N16.p1 N16.p15
def rt32 : Rd := rd2 N16.p2 N16.p0
def rt33 : Rd := rd2 N16.p2 N16.p1
def rt34 : Rd := rd2 N16.p2 N16.p2
def rt35 : Rd := rd2 N16.p2 N16.p3
def rt36 : Rd := rd2 N16.p2 N16.p4
def rt37 : Rd := rd2 N16.p2 N16.p5
def rt38 : Rd := rd2 N16.p2 N16.p6
def rt39 : Rd := rd2 N16.p2 N16.p7
def rt40 : Rd := rd2 N16.p2 N16.p8
def rt41 : Rd := rd2 N16.p2 N16.p9
def rt42 : Rd := rd2 N16.p2 N16.p10
def rt43 : Rd := rd2 N16.p2 N16.p11
def rt44 : Rd := rd2 N16.p2 N16.p12
def rt45 : Rd := rd2 N16.p2 N16.p13
def rt46 : Rd := rd2 N16.p2 N16.p14
def rt47 : Rd := rd2 N16.p2 N16.p15
def rt48 : Rd := rd2 N16.p3 N16.p0
def rt49 : Rd := rd2 N16.p3 N16.p1
def rt50 : Rd := rd2 N16.p3 N16.p2
def rt51 : Rd := rd2 N16.p3 N16.p3
def rt52 : Rd := rd2 N16.p3 N16.p4
def rt53 : Rd := rd2 N16.p3 N16.p5
def rt54 : Rd := rd2 N16.p3 N16.p6
def rt55 : Rd := rd2 N16.p3 N16.p7
def rt56 : Rd := rd2 N16.p3 N16.p8
def rt57 : Rd := rd2 N16.p3 N16.p9
def rt58 : Rd := rd2 N16.p3 N16.p10
def rt59 : Rd := rd2 N16.p3 N16.p11
def rt60 : Rd := rd2 N16.p3 N16.p12
def rt61 : Rd := rd2 N16.p3 N16.p13
def rt62 : Rd := rd2 N16.p3 N16.p14
def rt63 : Rd := rd2 N16.p3 N16.p15
def rt64 : Rd := rd2 N16.p4 N16.p0
def rt65 : Rd := rd2 N16.p4 N16.p1
def rt66 : Rd := rd2 N16.p4 N16.p2
def rt67 : Rd := rd2 N16.p4 N16.p3
def rt68 : Rd := rd2 N16.p4 N16.p4
def rt69 : Rd := rd2 N16.p4 N16.p5
def rt70 : Rd := rd2 N16.p4 N16.p6
def rt71 : Rd := rd2 N16.p4 N16.p7
def rt72 : Rd := rd2 N16.p4 N16.p8
def rt73 : Rd := rd2 N16.p4 N16.p9
def rt74 : Rd := rd2 N16.p4 N16.p10
def rt75 : Rd := rd2 N16.p4 N16.p11
def rt76 : Rd := rd2 N16.p4 N16.p12
def rt77 : Rd := rd2 N16.p4 N16.p13
def rt78 : Rd := rd2 N16.p4 N16.p14
def rt79 : Rd := rd2 N16.p4 N16.p15
def rt80 : Rd := rd2 N16.p5 N16.p0
def rt81 : Rd := rd2 N16.p5 N16.p1
def rt82 : Rd := rd2 N16.p5 N16.p2
def rt83 : Rd := rd2 N16.p5 N16.p3
def rt84 : Rd := rd2 N16.p5 N16.p4
def rt85 : Rd := rd2 N16.p5 N16.p5
def rt86 : Rd := rd2 N16.p5 N16.p6
def rt87 : Rd := rd2 N16.p5 N16.p7
def rt88 : Rd := rd2 N16.p5 N16.p8
def rt89 : Rd := rd2 N16.p5 N16.p9
def rt90 : Rd := rd2 N16.p5 N16.p10
def rt91 : Rd := rd2 N16.p5 N16.p11
def rt92 : Rd := rd2 N16.p5 N16.p12
def rt93 : Rd := rd2 N16.p5 N16.p13
def rt94 : Rd := rd2 N16.p5 N16.p14
def rt95 : Rd := rd2 N16.p5 N16.p15
def rt96 : Rd := rd2 N16.p6 N16.p0
def rt97 : Rd := rd2 N16.p6 N16.p1
def rt98 : Rd := rd2 N16.p6 N16.p2
def rt99 : Rd := rd2 N16.p6 N16.p3
def rt100 : Rd := rd2 N16.p6 N16.p4
def rt101 : Rd := rd2 N16.p6 N16.p5
def rt102 : Rd := rd2 N16.p6 N16.p6
def rt103 : Rd := rd2 N16.p6 N16.p7
def rt104 : Rd := rd2 N16.p6 N16.p8
def rt105 : Rd := rd2 N16.p6 N16.p9
def rt106 : Rd := rd2 N16.p6 N16.p10
def rt107 : Rd := rd2 N16.p6 N16.p11
def rt108 : Rd := rd2 N16.p6 N16.p12
def rt109 : Rd := rd2 N16.p6 N16.p13
def rt110 : Rd := rd2 N16.p6 N16.p14
def rt111 : Rd := rd2 N16.p6 N16.p15
def rt112 : Rd := rd2 N16.p7 N16.p0
def rt113 : Rd := rd2 N16.p7 N16.p1
def rt114 : Rd := rd2 N16.p7 N16.p2
def rt115 : Rd := rd2 N16.p7 N16.p3
def rt116 : Rd := rd2 N16.p7 N16.p4
def rt117 : Rd := rd2 N16.p7 N16.p5
def rt118 : Rd := rd2 N16.p7 N16.p6
def rt119 : Rd := rd2 N16.p7 N16.p7
def rt120 : Rd := rd2 N16.p7 N16.p8
def rt121 : Rd := rd2 N16.p7 N16.p9
def rt122 : Rd := rd2 N16.p7 N16.p10
def rt123 : Rd := rd2 N16.p7 N16.p11
def rt124 : Rd := rd2 N16.p7 N16.p12
def rt125 : Rd := rd2 N16.p7 N16.p13
def rt126 : Rd := rd2 N16.p7 N16.p14
def rt127 : Rd := rd2 N16.p7 N16.p15
def rt128 : Rd := rd2 N16.p8 N16.p0
def rt129 : Rd := rd2 N16.p8 N16.p1
def rt130 : Rd := rd2 N16.p8 N16.p2
def rt131 : Rd := rd2 N16.p8 N16.p3
def rt132 : Rd := rd2 N16.p8 N16.p4
def rt133 : Rd := rd2 N16.p8 N16.p5
def rt134 : Rd := rd2 N16.p8 N16.p6
def rt135 : Rd := rd2 N16.p8 N16.p7
def rt136 : Rd := rd2 N16.p8 N16.p8
def rt137 : Rd := rd2 N16.p8 N16.p9
def rt138 : Rd := rd2 N16.p8 N16.p10
def rt139 : Rd := rd2 N16.p8 N16.p11
def rt140 : Rd := rd2 N16.p8 N16.p12
def rt141 : Rd := rd2 N16.p8 N16.p13
def rt142 : Rd := rd2 N16.p8 N16.p14
def rt143 : Rd := rd2 N16.p8 N16.p15
def rt144 : Rd := rd2 N16.p9 N16.p0
def rt145 : Rd := rd2 N16.p9 N16.p1
def rt146 : Rd := rd2 N16.p9 N16.p2
def rt147 : Rd := rd2 N16.p9 N16.p3
def rt148 : Rd := rd2 N16.p9 N16.p4
def rt149 : Rd := rd2 N16.p9 N16.p5
def rt150 : Rd := rd2 N16.p9 N16.p6
def rt151 : Rd := rd2 N16.p9 N16.p7
def rt152 : Rd := rd2 N16.p9 N16.p8
def rt153 : Rd := rd2 N16.p9 N16.p9
def rt154 : Rd := rd2 N16.p9 N16.p10
def rt155 : Rd := rd2 N16.p9 N16.p11
def rt156 : Rd := rd2 N16.p9 N16.p12
def rt157 : Rd := rd2 N16.p9 N16.p13
def rt158 : Rd := rd2 N16.p9 N16.p14
def rt159 : Rd := rd2 N16.p9 N16.p15
def rt160 : Rd := rd2 N16.p10 N16.p0
def rt161 : Rd := rd2 N16.p10 N16.p1
def rt162 : Rd := rd2 N16.p10 N16.p2
def rt163 : Rd := rd2 N16.p10 N16.p3
def rt164 : Rd := rd2 N16.p10 N16.p4
def rt165 : Rd := rd2 N16.p10 N16.p5
def rt166 : Rd := rd2 N16.p10 N16.p6
def rt167 : Rd := rd2 N16.p10 N16.p7
def rt168 : Rd := rd2 N16.p10 N16.p8
def rt169 : Rd := rd2 N16.p10 N16.p9
def rt170 : Rd := rd2 N16.p10 N16.p10
def rt171 : Rd := rd2 N16.p10 N16.p11
def rt172 : Rd := rd2 N16.p10 N16.p12
def rt173 : Rd := rd2 N16.p10 N16.p13
def rt174 : Rd := rd2 N16.p10 N16.p14
def rt175 : Rd := rd2 N16.p10 N16.p15
def rt176 : Rd := rd2 N16.p11 N16.p0
def rt177 : Rd := rd2 N16.p11 N16.p1
def rt178 : Rd := rd2 N16.p11 N16.p2
def rt179 : Rd := rd2 N16.p11 N16.p3
def rt180 : Rd := rd2 N16.p11 N16.p4
def rt181 : Rd := rd2 N16.p11 N16.p5
def rt182 : Rd := rd2 N16.p11 N16.p6
def rt183 : Rd := rd2 N16.p11 N16.p7
def rt184 : Rd := rd2 N16.p11 N16.p8
def rt185 : Rd := rd2 N16.p11 N16.p9
def rt186 : Rd := rd2 N16.p11 N16.p10
def rt187 : Rd := rd2 N16.p11 N16.p11
def rt188 : Rd := rd2 N16.p11 N16.p12
def rt189 : Rd := rd2 N16.p11 N16.p13
def rt190 : Rd := rd2 N16.p11 N16.p14
def rt191 : Rd := rd2 N16.p11 N16.p15
def rt192 : Rd := rd2 N16.p12 N16.p0
def rt193 : Rd := rd2 N16.p12 N16.p1
def rt194 : Rd := rd2 N16.p12 N16.p2
def rt195 : Rd := rd2 N16.p12 N16.p3
def rt196 : Rd := rd2 N16.p12 N16.p4
def rt197 : Rd := rd2 N16.p12 N16.p5
def rt198 : Rd := rd2 N16.p12 N16.p6
def rt199 : Rd := rd2 N16.p12 N16.p7
def rt200 : Rd := rd2 N16.p12 N16.p8
def rt201 : Rd := rd2 N16.p12 N16.p9
def rt202 : Rd := rd2 N16.p12 N16.p10
def rt203 : Rd := rd2 N16.p12 N16.p11
def rt204 : Rd := rd2 N16.p12 N16.p12
def rt205 : Rd := rd2 N16.p12 N16.p13
def rt206 : Rd := rd2 N16.p12 N16.p14
def rt207 : Rd := rd2 N16.p12 N16.p15
def rt208 : Rd := rd2 N16.p13 N16.p0
def rt209 : Rd := rd2 N16.p13 N16.p1
def rt210 : Rd := rd2 N16.p13 N16.p2
def rt211 : Rd := rd2 N16.p13 N16.p3
def rt212 : Rd := rd2 N16.p13 N16.p4
def rt213 : Rd := rd2 N16.p13 N16.p5
def rt214 : Rd := rd2 N16.p13 N16.p6
def rt215 : Rd := rd2 N16.p13 N16.p7
def rt216 : Rd := rd2 N16.p13 N16.p8
def rt217 : Rd := rd2 N16.p13 N16.p9
def rt218 : Rd := rd2 N16.p13 N16.p10
def rt219 : Rd := rd2 N16.p13 N16.p11
def rt220 : Rd := rd2 N16.p13 N16.p12
def rt221 : Rd := rd2 N16.p13 N16.p13
def rt222 : Rd := rd2 N16.p13 N16.p14
def rt223 : Rd := rd2 N16.p13 N16.p15
def rt224 : Rd := rd2 N16.p14 N16.p0
def rt225 : Rd := rd2 N16.p14 N16.p1
def rt226 : Rd := rd2 N16.p14 N16.p2
def rt227 : Rd := rd2 N16.p14 N16.p3
def rt228 : Rd := rd2 N16.p14 N16.p4
def rt229 : Rd := rd2 N16.p14 N16.p5
def rt230 : Rd := rd2 N16.p14 N16.p6
def rt231 : Rd := rd2 N16.p14 N16.p7
def rt232 : Rd := rd2 N16.p14 N16.p8
def rt233 : Rd := rd2 N16.p14 N16.p9
def rt234 : Rd := rd2 N16.p14 N16.p10
def rt235 : Rd := rd2 N16.p14 N16.p11
def rt236 : Rd := rd2 N16.p14 N16.p12
def rt237 : Rd := rd2 N16.p14 N16.p13
def rt238 : Rd := rd2 N16.p14 N16.p14
def rt239 : Rd := rd2 N16.p14 N16.p15
def rt240 : Rd := rd2 N16.p15 N16.p0
def rt241 : Rd := rd2 N16.p15 N16.p1
def rt242 : Rd := rd2 N16.p15 N16.p2
def rt243 : Rd := rd2 N16.p15 N16.p3
def rt244 : Rd := rd2 N16.p15 N16.p4
def rt245 : Rd := rd2 N16.p15 N16.p5
def rt246 : Rd := rd2 N16.p15 N16.p6
def rt247 : Rd := rd2 N16.p15 N16.p7
def rt248 : Rd := rd2 N16.p15 N16.p8
def rt249 : Rd := rd2 N16.p15 N16.p9
def rt250 : Rd := rd2 N16.p15 N16.p10
def rt251 : Rd := rd2 N16.p15 N16.p11
def rt252 : Rd := rd2 N16.p15 N16.p12
def rt253 : Rd := rd2 N16.p15 N16.p13
def rt254 : Rd := rd2 N16.p15 N16.p14
def rt255 : Rd := rd2 N16.p15 N16.p15
def wt0 : Wr := wr2 N16.p0 N16.u0 N16.u0
def wt1 : Wr := wr2 N16.p0 N16.u0 N16.u1
def wt2 : Wr := wr2 N16.p0 N16.u0 N16.u2
def wt3 : Wr := wr2 N16.p0 N16.u0 N16.u3
def wt4 : Wr := wr2 N16.p0 N16.u0 N16.u4
def wt5 : Wr := wr2 N16.p0 N16.u0 N16.u5
def wt6 : Wr := wr2 N16.p0 N16.u0 N16.u6
def wt7 : Wr := wr2 N16.p0 N16.u0 N16.u7
def wt8 : Wr := wr2 N16.p0 N16.u0 N16.u8
def wt9 : Wr := wr2 N16.p0 N16.u0 N16.u9
def wt10 : Wr := wr2 N16.p0 N16.u0 N16.u10
def wt11 : Wr := wr2 N16.p0 N16.u0 N16.u11
def wt12 : Wr := wr2 N16.p0 N16.u0 N16.u12
def wt13 : Wr := wr2 N16.p0 N16.u0 N16.u13
def wt14 : Wr := wr2 N16.p0 N16.u0 N16.u14
def wt15 : Wr := wr2 N16.p0 N16.u0 N16.u15
def wt16 : Wr := wr2 N16.p1 N16.u1 N16.u0
def wt17 : Wr := wr2 N16.p1 N16.u1 N16.u1
def wt18 : Wr := wr2 N16.p1 N16.u1 N16.u2
def wt19 : Wr := wr2 N16.p1 N16.u1 N16.u3
def wt20 : Wr := wr2 N16.p1 N16.u1 N16.u4
def wt21 : Wr := wr2 N16.p1 N16.u1 N16.u5
def wt22 : Wr := wr2 N16.p1 N16.u1 N16.u6
def wt23 : Wr := wr2 N16.p1 N16.u1 N16.u7
def wt24 : Wr := wr2 N16.p1 N16.u1 N16.u8
def wt25 : Wr := wr2 N16.p1 N16.u1 N16.u9
def wt26 : Wr := wr2 N16.p1 N16.u1 N16.u10
def wt27 : Wr := wr2 N16.p1 N16.u1 N16.u11
def wt28 : Wr := wr2 N16.p1 N16.u1 N16.u12
def wt29 : Wr := wr2 N16.p1 N16.u1 N16.u13
def wt30 : Wr := wr2 N16.p1 N16.u1 N16.u14
def wt31 : Wr := wr2 N16.p1 N16.u1 N16.u15
def wt32 : Wr := wr2 N16.p2 N16.u2 N16.u0
def wt33 : Wr := wr2 N16.p2 N16.u2 N16.u1
def wt34 : Wr := wr2 N16.p2 N16.u2 N16.u2
def wt35 : Wr := wr2 N16.p2 N16.u2 N16.u3
def wt36 : Wr := wr2 N16.p2 N16.u2 N16.u4
def wt37 : Wr := wr2 N16.p2 N16.u2 N16.u5
def wt38 : Wr := wr2 N16.p2 N16.u2 N16.u6
def wt39 : Wr := wr2 N16.p2 N16.u2 N16.u7
def wt40 : Wr := wr2 N16.p2 N16.u2 N16.u8
def wt41 : Wr := wr2 N16.p2 N16.u2 N16.u9
def wt42 : Wr := wr2 N16.p2 N16.u2 N16.u10
def wt43 : Wr := wr2 N16.p2 N16.u2 N16.u11
def wt44 : Wr := wr2 N16.p2 N16.u2 N16.u12
def wt45 : Wr := wr2 N16.p2 N16.u2 N16.u13
def wt46 : Wr := wr2 N16.p2 N16.u2 N16.u14
def wt47 : Wr := wr2 N16.p2 N16.u2 N16.u15
def wt48 : Wr := wr2 N16.p3 N16.u3 N16.u0
def wt49 : Wr := wr2 N16.p3 N16.u3 N16.u1
def wt50 : Wr := wr2 N16.p3 N16.u3 N16.u2
def wt51 : Wr := wr2 N16.p3 N16.u3 N16.u3
def wt52 : Wr := wr2 N16.p3 N16.u3 N16.u4
def wt53 : Wr := wr2 N16.p3 N16.u3 N16.u5
def wt54 : Wr := wr2 N16.p3 N16.u3 N16.u6
def wt55 : Wr := wr2 N16.p3 N16.u3 N16.u7
def wt56 : Wr := wr2 N16.p3 N16.u3 N16.u8
def wt57 : Wr := wr2 N16.p3 N16.u3 N16.u9
def wt58 : Wr := wr2 N16.p3 N16.u3 N16.u10
def wt59 : Wr := wr2 N16.p3 N16.u3 N16.u11
def wt60 : Wr := wr2 N16.p3 N16.u3 N16.u12
def wt61 : Wr := wr2 N16.p3 N16.u3 N16.u13
def wt62 : Wr := wr2 N16.p3 N16.u3 N16.u14
def wt63 : Wr := wr2 N16.p3 N16.u3 N16.u15
def wt64 : Wr := wr2 N16.p4 N16.u4 N16.u0
def wt65 : Wr := wr2 N16.p4 N16.u4 N16.u1
def wt66 : Wr := wr2 N16.p4 N16.u4 N16.u2
def wt67 : Wr := wr2 N16.p4 N16.u4 N16.u3
def wt68 : Wr := wr2 N16.p4 N16.u4 N16.u4
def wt69 : Wr := wr2 N16.p4 N16.u4 N16.u5
def wt70 : Wr := wr2 N16.p4 N16.u4 N16.u6
def wt71 : Wr := wr2 N16.p4 N16.u4 N16.u7
def wt72 : Wr := wr2 N16.p4 N16.u4 N16.u8
def wt73 : Wr := wr2 N16.p4 N16.u4 N16.u9
def wt74 : Wr := wr2 N16.p4 N16.u4 N16.u10
def wt75 : Wr := wr2 N16.p4 N16.u4 N16.u11
def wt76 : Wr := wr2 N16.p4 N16.u4 N16.u12
def wt77 : Wr := wr2 N16.p4 N16.u4 N16.u13
def wt78 : Wr := wr2 N16.p4 N16.u4 N16.u14
def wt79 : Wr := wr2 N16.p4 N16.u4 N16.u15
def wt80 : Wr := wr2 N16.p5 N16.u5 N16.u0
def wt81 : Wr := wr2 N16.p5 N16.u5 N16.u1
def wt82 : Wr := wr2 N16.p5 N16.u5 N16.u2
def wt83 : Wr := wr2 N16.p5 N16.u5 N16.u3
def wt84 : Wr := wr2 N16.p5 N16.u5 N16.u4
def wt85 : Wr := wr2 N16.p5 N16.u5 N16.u5
def wt86 : Wr := wr2 N16.p5 N16.u5 N16.u6
def wt87 : Wr := wr2 N16.p5 N16.u5 N16.u7
def wt88 : Wr := wr2 N16.p5 N16.u5 N16.u8
def wt89 : Wr := wr2 N16.p5 N16.u5 N16.u9
def wt90 : Wr := wr2 N16.p5 N16.u5 N16.u10
def wt91 : Wr := wr2 N16.p5 N16.u5 N16.u11
def wt92 : Wr := wr2 N16.p5 N16.u5 N16.u12
def wt93 : Wr := wr2 N16.p5 N16.u5 N16.u13
def wt94 : Wr := wr2 N16.p5 N16.u5 N16.u14
def wt95 : Wr := wr2 N16.p5 N16.u5 N16.u15
def wt96 : Wr := wr2 N16.p6 N16.u6 N16.u0
def wt97 : Wr := wr2 N16.p6 N16.u6 N16.u1
def wt98 : Wr := wr2 N16.p6 N16.u6 N16.u2
def wt99 : Wr := wr2 N16.p6 N16.u6 N16.u3
def wt100 : Wr := wr2 N16.p6 N16.u6 N16.u4
def wt101 : Wr := wr2 N16.p6 N16.u6 N16.u5
def wt102 : Wr := wr2 N16.p6 N16.u6 N16.u6
def wt103 : Wr := wr2 N16.p6 N16.u6 N16.u7
def wt104 : Wr := wr2 N16.p6 N16.u6 N16.u8
def wt105 : Wr := wr2 N16.p6 N16.u6 N16.u9
def wt106 : Wr := wr2 N16.p6 N16.u6 N16.u10
def wt107 : Wr := wr2 N16.p6 N16.u6 N16.u11
def wt108 : Wr := wr2 N16.p6 N16.u6 N16.u12
def wt109 : Wr := wr2 N16.p6 N16.u6 N16.u13
def wt110 : Wr := wr2 N16.p6 N16.u6 N16.u14
def wt111 : Wr := wr2 N16.p6 N16.u6 N16.u15
def wt112 : Wr := wr2 N16.p7 N16.u7 N16.u0
def wt113 : Wr := wr2 N16.p7 N16.u7 N16.u1
def wt114 : Wr := wr2 N16.p7 N16.u7 N16.u2
def wt115 : Wr := wr2 N16.p7 N16.u7 N16.u3
def wt116 : Wr := wr2 N16.p7 N16.u7 N16.u4
def wt117 : Wr := wr2 N16.p7 N16.u7 N16.u5
def wt118 : Wr := wr2 N16.p7 N16.u7 N16.u6
def wt119 : Wr := wr2 N16.p7 N16.u7 N16.u7
def wt120 : Wr := wr2 N16.p7 N16.u7 N16.u8
def wt121 : Wr := wr2 N16.p7 N16.u7 N16.u9
def wt122 : Wr := wr2 N16.p7 N16.u7 N16.u10
def wt123 : Wr := wr2 N16.p7 N16.u7 N16.u11
def wt124 : Wr := wr2 N16.p7 N16.u7 N16.u12
def wt125 : Wr := wr2 N16.p7 N16.u7 N16.u13
def wt126 : Wr := wr2 N16.p7 N16.u7 N16.u14
def wt127 : Wr := wr2 N16.p7 N16.u7 N16.u15
def wt128 : Wr := wr2 N16.p8 N16.u8 N16.u0
def wt129 : Wr := wr2 N16.p8 N16.u8 N16.u1
def wt130 : Wr := wr2 N16.p8 N16.u8 N16.u2
def wt131 : Wr := wr2 N16.p8 N16.u8 N16.u3
def wt132 : Wr := wr2 N16.p8 N16.u8 N16.u4
def wt133 : Wr := wr2 N16.p8 N16.u8 N16.u5
def wt134 : Wr := wr2 N16.p8 N16.u8 N16.u6
def wt135 : Wr := wr2 N16.p8 N16.u8 N16.u7
def wt136 : Wr := wr2 N16.p8 N16.u8 N16.u8
def wt137 : Wr := wr2 N16.p8 N16.u8 N16.u9
def wt138 : Wr := wr2 N16.p8 N16.u8 N16.u10
def wt139 : Wr := wr2 N16.p8 N16.u8 N16.u11
def wt140 : Wr := wr2 N16.p8 N16.u8 N16.u12
def wt141 : Wr := wr2 N16.p8 N16.u8 N16.u13
def wt142 : Wr := wr2 N16.p8 N16.u8 N16.u14
def wt143 : Wr := wr2 N16.p8 N16.u8 N16.u15
def wt144 : Wr := wr2 N16.p9 N16.u9 N16.u0
def wt145 : Wr := wr2 N16.p9 N16.u9 N16.u1
def wt146 : Wr := wr2 N16.p9 N16.u9 N16.u2
def wt147 : Wr := wr2 N16.p9 N16.u9 N16.u3
def wt148 : Wr := wr2 N16.p9 N16.u9 N16.u4
def wt149 : Wr := wr2 N16.p9 N16.u9 N16.u5
def wt150 : Wr := wr2 N16.p9 N16.u9 N16.u6
def wt151 : Wr := wr2 N16.p9 N16.u9 N16.u7
def wt152 : Wr := wr2 N16.p9 N16.u9 N16.u8
def wt153 : Wr := wr2 N16.p9 N16.u9 N16.u9
def wt154 : Wr := wr2 N16.p9 N16.u9 N16.u10
def wt155 : Wr := wr2 N16.p9 N16.u9 N16.u11
def wt156 : Wr := wr2 N16.p9 N16.u9 N16.u12
def wt157 : Wr := wr2 N16.p9 N16.u9 N16.u13
def wt158 : Wr := wr2 N16.p9 N16.u9 N16.u14
def wt159 : Wr := wr2 N16.p9 N16.u9 N16.u15
def wt160 : Wr := wr2 N16.p10 N16.u10 N16.u0
def wt161 : Wr := wr2 N16.p10 N16.u10 N16.u1
def wt162 : Wr := wr2 N16.p10 N16.u10 N16.u2
def wt163 : Wr := wr2 N16.p10 N16.u10 N16.u3
def wt164 : Wr := wr2 N16.p10 N16.u10 N16.u4
def wt165 : Wr := wr2 N16.p10 N16.u10 N16.u5
def wt166 : Wr := wr2 N16.p10 N16.u10 N16.u6
def wt167 : Wr := wr2 N16.p10 N16.u10 N16.u7
def wt168 : Wr := wr2 N16.p10 N16.u10 N16.u8
def wt169 : Wr := wr2 N16.p10 N16.u10 N16.u9
def wt170 : Wr := wr2 N16.p10 N16.u10 N16.u10
def wt171 : Wr := wr2 N16.p10 N16.u10 N16.u11
def wt172 : Wr := wr2 N16.p10 N16.u10 N16.u12
def wt173 : Wr := wr2 N16.p10 N16.u10 N16.u13
def wt174 : Wr := wr2 N16.p10 N16.u10 N16.u14
def wt175 : Wr := wr2 N16.p10 N16.u10 N16.u15
def wt176 : Wr := wr2 N16.p11 N16.u11 N16.u0
def wt177 : Wr := wr2 N16.p11 N16.u11 N16.u1
def wt178 : Wr := wr2 N16.p11 N16.u11 N16.u2
def wt179 : Wr := wr2 N16.p11 N16.u11 N16.u3
def wt180 : Wr := wr2 N16.p11 N16.u11 N16.u4
def wt181 : Wr := wr2 N16.p11 N16.u11 N16.u5
def wt182 : Wr := wr2 N16.p11 N16.u11 N16.u6
def wt183 : Wr := wr2 N16.p11 N16.u11 N16.u7
def wt184 : Wr := wr2 N16.p11 N16.u11 N16.u8
def wt185 : Wr := wr2 N16.p11 N16.u11 N16.u9
def wt186 : Wr := wr2 N16.p11 N16.u11 N16.u10
def wt187 : Wr := wr2 N16.p11 N16.u11 N16.u11
def wt188 : Wr := wr2 N16.p11 N16.u11 N16.u12
def wt189 : Wr := wr2 N16.p11 N16.u11 N16.u13
def wt190 : Wr := wr2 N16.p11 N16.u11 N16.u14
def wt191 : Wr := wr2 N16.p11 N16.u11 N16.u15
def wt192 : Wr := wr2 N16.p12 N16.u12 N16.u0
def wt193 : Wr := wr2 N16.p12 N16.u12 N16.u1
def wt194 : Wr := wr2 N16.p12 N16.u12 N16.u2
def wt195 : Wr := wr2 N16.p12 N16.u12 N16.u3
def wt196 : Wr := wr2 N16.p12 N16.u12 N16.u4
def wt197 : Wr := wr2 N16.p12 N16.u12 N16.u5
def wt198 : Wr := wr2 N16.p12 N16.u12 N16.u6
def wt199 : Wr := wr2 N16.p12 N16.u12 N16.u7
def wt200 : Wr := wr2 N16.p12 N16.u12 N16.u8
def wt201 : Wr := wr2 N16.p12 N16.u12 N16.u9
def wt202 : Wr := wr2 N16.p12 N16.u12 N16.u10
def wt203 : Wr := wr2 N16.p12 N16.u12 N16.u11
def wt204 : Wr := wr2 N16.p12 N16.u12 N16.u12
def wt205 : Wr := wr2 N16.p12 N16.u12 N16.u13
def wt206 : Wr := wr2 N16.p12 N16.u12 N16.u14
def wt207 : Wr := wr2 N16.p12 N16.u12 N16.u15
def wt208 : Wr := wr2 N16.p13 N16.u13 N16.u0
def wt209 : Wr := wr2 N16.p13 N16.u13 N16.u1
def wt210 : Wr := wr2 N16.p13 N16.u13 N16.u2
def wt211 : Wr := wr2 N16.p13 N16.u13 N16.u3
def wt212 : Wr := wr2 N16.p13 N16.u13 N16.u4
def wt213 : Wr := wr2 N16.p13 N16.u13 N16.u5
def wt214 : Wr := wr2 N16.p13 N16.u13 N16.u6
def wt215 : Wr := wr2 N16.p13 N16.u13 N16.u7
def wt216 : Wr := wr2 N16.p13 N16.u13 N16.u8
def wt217 : Wr := wr2 N16.p13 N16.u13 N16.u9
def wt218 : Wr := wr2 N16.p13 N16.u13 N16.u10
def wt219 : Wr := wr2 N16.p13 N16.u13 N16.u11
def wt220 : Wr := wr2 N16.p13 N16.u13 N16.u12
def wt221 : Wr := wr2 N16.p13 N16.u13 N16.u13
def wt222 : Wr := wr2 N16.p13 N16.u13 N16.u14
def wt223 : Wr := wr2 N16.p13 N16.u13 N16.u15
def wt224 : Wr := wr2 N16.p14 N16.u14 N16.u0
def wt225 : Wr := wr2 N16.p14 N16.u14 N16.u1
def wt226 : Wr := wr2 N16.p14 N16.u14 N16.u2
def wt227 : Wr := wr2 N16.p14 N16.u14 N16.u3
def wt228 : Wr := wr2 N16.p14 N16.u14 N16.u4
def wt229 : Wr := wr2 N16.p14 N16.u14 N16.u5
def wt230 : Wr := wr2 N16.p14 N16.u14 N16.u6
def wt231 : Wr := wr2 N16.p14 N16.u14 N16.u7
def wt232 : Wr := wr2 N16.p14 N16.u14 N16.u8
def wt233 : Wr := wr2 N16.p14 N16.u14 N16.u9
def wt234 : Wr := wr2 N16.p14 N16.u14 N16.u10
def wt235 : Wr := wr2 N16.p14 N16.u14 N16.u11
def wt236 : Wr := wr2 N16.p14 N16.u14 N16.u12
def wt237 : Wr := wr2 N16.p14 N16.u14 N16.u13
def wt238 : Wr := wr2 N16.p14 N16.u14 N16.u14
def wt239 : Wr := wr2 N16.p14 N16.u14 N16.u15
def wt240 : Wr := wr2 N16.p15 N16.u15 N16.u0
def wt241 : Wr := wr2 N16.p15 N16.u15 N16.u1
def wt242 : Wr := wr2 N16.p15 N16.u15 N16.u2
def wt243 : Wr := wr2 N16.p15 N16.u15 N16.u3
def wt244 : Wr := wr2 N16.p15 N16.u15 N16.u4
def wt245 : Wr := wr2 N16.p15 N16.u15 N16.u5
def wt246 : Wr := wr2 N16.p15 N16.u15 N16.u6
def wt247 : Wr := wr2 N16.p15 N16.u15 N16.u7
def wt248 : Wr := wr2 N16.p15 N16.u15 N16.u8
def wt249 : Wr := wr2 N16.p15 N16.u15 N16.u9
def wt250 : Wr := wr2 N16.p15 N16.u15 N16.u10
def wt251 : Wr := wr2 N16.p15 N16.u15 N16.u11
def wt252 : Wr := wr2 N16.p15 N16.u15 N16.u12
def wt253 : Wr := wr2 N16.p15 N16.u15 N16.u13
def wt254 : Wr := wr2 N16.p15 N16.u15 N16.u14
def wt255 : Wr := wr2 N16.p15 N16.u15 N16.u15
end Go.Eng
