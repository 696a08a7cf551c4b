/-
  The engine, joined part H: an abstract interpreter over the kit's calls, and its soundness.
  No condition beyond those that each theorem states.
-/
import Derived.Test.YtfcecgfjjamlcaaGreatEngG
set_option linter.all false
namespace Go.Eng
open Go
def frLgo (T : Fr) : List Nat → List (Nat × AV)
  | [] => []
  | k :: l => match rdT k T with
    | some x => (k, x) :: frLgo T l
    | none => frLgo T l
def frL (T : Fr) : List (Nat × AV) := frLgo T (List.range 256)
theorem frLgo_get {T : Fr} : ∀ {l : List Nat} {k : Nat} {x : AV}, get (frLgo T l) k = some x → getT T k = some x
  | [], k, x, h => by cases h
  | j :: l, k, x, h => by
    simp only [frLgo] at h
    split at h
    · rename_i y hy
      by_cases e : j = k
      · subst e; rw [get_same] at h; cases h; exact rdT_get hy
      · rw [get_ne _ _ _ _ e] at h; exact frLgo_get h
    · exact frLgo_get h
def frOfL : List (Nat × AV) → Fr
  | [] => fr0
  | p :: l => wrT p.1 (frOfL l) p.2
theorem wrT_ge {T : Fr} {k : Nat} {x : AV} (h : 256 ≤ k) : wrT k T x = T := by
  have h1 : 16 ≤ k / 16 := by omega
  have h2 : (N16.ps (α := N16 (Option AV)))[k / 16]? = none := List.getElem?_eq_none (by rw [ps_len]; exact h1)
  unfold wrT
  rw [h2]
  rfl
theorem View.put {t : List (Nat × AV)} {T : Fr} (hv : View t T) (k : Nat) (x : AV) : View ((k, x) :: t) (wrT k T x) := by
  by_cases hk : k < 256
  · exact hv.wr (some k) x fun j e => by cases e; exact hk
  · rw [wrT_ge (by omega)]
    intro j y hy
    have hj : j < 256 := by
      unfold getT at hy
      split at hy
      · assumption
      · cases hy
    rw [get_ne _ _ _ _ (by omega)]
    exact hv j y hy
theorem View.putO {t : List (Nat × AV)} {T : Fr} (hv : View t T) (d : Option Nat) (x : AV) : View (putA t d x) (wrOp d T x) := by
  cases d with
  | none => exact hv
  | some d => exact hv.put d x
theorem view_frOfL : ∀ (l : List (Nat × AV)), View l (frOfL l)
  | [] => fun k x h => by simp only [frOfL, getT_fr0] at h; cases h
  | (k, x) :: l => (view_frOfL l).put k x
theorem HR.heq {C : Ctx} {ρ : Nat → Loc} {U : Nat → Prop} {h H : Hp} {w : World} (hh : HEq' h H) (hr : HR C ρ U h w) : HR C ρ U H w :=
  ⟨fun b o hb => hr.hp b o ((hh b).trans hb), fun b hb => hr.hd b ((hh b).trans hb), hr.inj, hr.os, hr.tape, hr.output, hr.size, hr.old, hr.okl, hr.ownl,
    fun b l hl => by obtain ⟨h1, h2, cs, h3⟩ := hr.fix b l hl; exact ⟨h1, h2, cs, (hh b).symm.trans h3⟩⟩
theorem R.heq {C : Ctx} {ρ : Nat → Loc} {U : Nat → Prop} {n : Nat} {t t' : List (Nat × AV)} {h H : Hp} {a : Act} {w : World} (hh : HEq' h H) (ht : ∀ k x, get t' k = some x → get t k = some x) (hr : R C ρ U ⟨n, t, h⟩ a w) : R C ρ U ⟨n, t', H⟩ a w :=
  ⟨hr.hr.heq hh, hr.defers, hr.sz, fun k x hk => hr.tm k x (ht k x hk)⟩
theorem wkth_frL {t : List (Nat × AV)} {T : Fr} {h H : Hp} {t2 : List (Nat × AV)} {h2 : Hp} (hv : View t T) (hh : HEq' h H) (hw : WkTH (frL T) H t2 h2) : WkTH t h t2 h2 :=
  fun C ρ U a w hr => hw C ρ U a w (hr.heq hh fun k x hk => hv k x (frLgo_get hk))
def repl (b : Nat) (o : Ob) (H : Hp) : Hp := match H with
  | [] => [(b, o)]
  | p :: l => bif Nat.beq p.1 b then (b, o) :: l else p :: repl b o l
def upH (n : Nat) (u : Hp) (H : Hp) : Hp := match u with
  | [] => H
  | p :: l => bif Nat.ble n p.1 then p :: upH n l H else repl p.1 p.2 (upH n l H)
theorem repl_get : ∀ (H : Hp) (b : Nat) (o : Ob) (k : Nat), get (repl b o H) k = get ((b, o) :: H) k
  | [], b, o, k => rfl
  | (a, x) :: l, b, o, k => by
    simp only [repl]
    cases hb : Nat.beq a b with
    | true =>
      have := Nat.eq_of_beq_eq_true hb
      subst this
      simp only [cond_true, get]
      split <;> rfl
    | false =>
      have hn := Nat.ne_of_beq_eq_false hb
      simp only [cond_false, get, repl_get l b o k]
      by_cases e : a = k
      · rw [if_pos e, if_neg (fun h => hn (e.trans h.symm)), if_pos e]
      · rw [if_neg e]
        by_cases e2 : b = k
        · rw [if_pos e2, if_pos e2]
        · rw [if_neg e2, if_neg e2, if_neg e]
theorem upH_get {h H : Hp} (hh : HEq' h H) (n : Nat) : ∀ (u : Hp), HEq' (u ++ h) (upH n u H)
  | [] => hh
  | (b, o) :: u => by
    intro k
    simp only [upH, List.cons_append]
    have ih := upH_get hh n u k
    cases hb : Nat.ble n b with
    | true => simp only [cond_true, get]; rw [ih]
    | false => rw [cond_false, repl_get]; simp only [get]; rw [ih]
abbrev Stm := RunO → Nat → Fr → Hp → List Use → RR
abbrev DStm := List Foot → Stm
def apO (o O : List Use) : List Use := match o with
  | [] => O
  | o => o ++ O
theorem apO_eq (o O : List Use) : apO o O = o ++ O := by cases o <;> rfl
def opF (c : Core) (w : Wr) (d : Nat) (k : Stm) : Stm := fun run n T H O => c (n + d) T H fun y u _ => k run n (w T y) (upH n u H) O
def opC (kl : Bool) (f : Rd) (as : List Rd) (w : Wr) (d : Nat) (k : Stm) : Stm := fun run n T H O => cCallK kl run (n + d) T H f as fun y u _ o => k run n (w T y) (upH n u H) (apO o O)
def opZ (rs : List Rd) (op : SOp) (ks : List (Nat × Rd)) (c : Core) (w : Wr) (d : Nat) (k : Stm) : Stm := fun run n T H O =>
  rdsK rs T fun xs => bif pureL xs then c (n + d) T H (fun y u _ => k run n (w T y) (upH n u H) O)
    else tmpK ks T fun t1 => match eff2 (n + d) t1 H op with
      | some _ => c (n + d) T H (fun y u _ => k run n (w T y) (upH n u H) O)
      | none => match frz (zOf t1 H op) (frL T) H with
        | some (t2, h2) => c (n + d) (frOfL t2) h2 (fun y u _ => k run n (w (frOfL t2) y) (upH n u h2) O)
        | none => none
def laid : SOp → Option (List Rd)
  | .store _ _ y => some [rdOp y]
  | .bslice _ _ _ _ ps => some (ps.map fun p => rdOp p.2)
  | .mput _ _ x => some [rdOp x]
  | _ => none
def callO : SOp → Option (Operand × List Operand)
  | .call f as => some (f, as)
  | _ => none
theorem callO_some {op : SOp} {p : Operand × List Operand} (h : callO op = some p) : op = .call p.1 p.2 := by
  cases op <;> simp only [callO, Option.some.injEq] at h <;> first | (subst h; rfl) | cases h
theorem callO_none {op : SOp} (h : callO op = none) (f : Operand) (as : List Operand) : op ≠ .call f as := by
  intro e
  subst e
  cases h
def opS (kl : Bool) (o : SOper) (d : Nat) (k : Stm) : Stm := match callO o.op with
  | some p => opC kl (rdOp p.1) (p.2.map rdOp) (wrOp o.dst) d k
  | none => match laid o.op with
    | some rs => opZ rs o.op (ksOf o.op) (coreOf o.op) (wrOp o.dst) d k
    | none => opF (coreOf o.op) (wrOp o.dst) d k
theorem opX_eff {run : RunT} {nm : Nat} {o : SOper} {t : List (Nat × AV)} {h : Hp} {r : Rec} (hp : plainOp o.op = true) (e : opX run nm o t h = some r) : ∃ e0, eff nm t h o.op = some e0 ∧ e0.pre ∧ e0.val = r.val ∧ e0.upd = r.upd := by
  rw [opX_plain hp] at e
  split at e
  · rename_i e0 h0
    cases hb : preB t h o.op with
    | false => rw [hb] at e; cases e
    | true =>
      rw [hb] at e
      simp only [cond_true, Option.some.injEq] at e
      subst e
      have h1 : eff nm t h o.op = some e0 := by rw [eff2_eq]; exact h0
      exact ⟨e0, h1, preB_ok h1 hb, rfl, rfl⟩
  · cases e
def KOk (P : Program) (len : Nat) (k : Stm) (G : Nat → List (Nat × AV) → Hp → (List (Nat × AV) → Hp → Prop) → Prop) : Prop := ∀ run, RunOOk P run → ∀ n T H O e n' T' H' O', k run n T H O = some ⟨e, n', T', H', O'⟩ →
  (∃ L, O' = L ++ O) ∧ (e = .normal ∧ n' = n + 8 * len) ∧ (Valid P O' → ∀ t h, View t T → HEq' h H → ∃ t' h', View t' T' ∧ HEq' h' H' ∧ ∀ Q : List (Nat × AV) → Hp → Prop, Q t' h' → G n t h Q)
theorem opS_ok {P : Program} {kl : Bool} {len : Nat} {o : SOper} {d : Nat} {k : Stm} {G : Nat → List (Nat × AV) → Hp → (List (Nat × AV) → Hp → Prop) → Prop} (hk : KOk P len k G) :
    KOk P len (opS kl o d k) fun n t h Q => wpOper P (n + d) o t h fun t h => G n t h Q := by
  intro run hrun n T H O e n' T' H' O' h
  unfold opS at h
  have plain : ∀ (c : Core), (∀ f as, o.op ≠ .call f as) → CoreOk o.op c → c (n + d) T H (fun y u _ => k run n (wrOp o.dst T y) (upH n u H) O) = some ⟨e, n', T', H', O'⟩ →
      (∃ L, O' = L ++ O) ∧ (e = .normal ∧ n' = n + 8 * len) ∧ (Valid P O' → ∀ t h, View t T → HEq' h H → ∃ t' h', View t' T' ∧ HEq' h' H' ∧ ∀ Q : List (Nat × AV) → Hp → Prop, Q t' h' → wpOper P (n + d) o t h fun t h => G n t h Q) := by
    intro c hc hco h
    obtain ⟨y, u, rd, h, hX⟩ := hco (rstar P run) _ _ _ _ _ h
    obtain ⟨hL, hen, hs⟩ := hk run hrun _ _ _ _ _ _ _ _ _ h
    refine ⟨hL, hen, fun hv t h1 hvw hh => ?_⟩
    obtain ⟨t', h', h2, h3, h4⟩ := hs hv _ _ (hvw.putO o.dst y) (upH_get hh n u)
    refine ⟨t', h', h2, h3, fun Q hQ => ?_⟩
    have hx := hX t o hvw rfl
    rw [← opX_heq hh hc] at hx
    exact opX_wp (rstar_ok hrun) hx _ (h4 Q hQ)
  cases hcl : callO o.op with
  | some p =>
    obtain ⟨f, as⟩ := p
    have hop := callO_some hcl
    rw [hcl] at h
    simp only at h hop
    obtain ⟨y, u, rd, O1, h, hC⟩ := cCallK_some hrun h
    obtain ⟨⟨L, hL⟩, hen, hs⟩ := hk run hrun _ _ _ _ _ _ _ _ _ h
    rw [apO_eq] at hL
    refine ⟨⟨L ++ O1, by rw [hL, List.append_assoc]⟩, hen, fun hv t h1 hvw hh => ?_⟩
    have hv1 : Valid P O1 := by rw [hL] at hv; exact hv.app.2.app.1
    obtain ⟨t', h', h2, h3, h4⟩ := hs hv _ _ (hvw.putO o.dst y) (upH_get hh n u)
    refine ⟨t', h', h2, h3, fun Q hQ => ?_⟩
    simp only [wpOper, hop]
    exact hC hv1 t h1 hvw hh _ fun g xs hCD => hCD h1 (fun _ _ => rfl) _ (h4 Q hQ)
  | none =>
    have hnc' : ∀ f as, o.op ≠ .call f as := callO_none hcl
    rw [hcl] at h
    simp only at h
    cases hl : laid o.op with
    | some rs =>
      rw [hl] at h
      simp only at h
      obtain ⟨xs, h⟩ : ∃ xs, (bif pureL xs then coreOf o.op (n + d) T H (fun y u _ => k run n (wrOp o.dst T y) (upH n u H) O)
        else tmpK (ksOf o.op) T fun t1 => match eff2 (n + d) t1 H o.op with
          | some _ => coreOf o.op (n + d) T H (fun y u _ => k run n (wrOp o.dst T y) (upH n u H) O)
          | none => match frz (zOf t1 H o.op) (frL T) H with
            | some (t2, h2) => coreOf o.op (n + d) (frOfL t2) h2 (fun y u _ => k run n (wrOp o.dst (frOfL t2) y) (upH n u h2) O)
            | none => none) = some ⟨e, n', T', H', O'⟩ := by
        clear hk plain
        have : ∀ (rs : List Rd) (kk : List AV → RR), rdsK rs T kk = some ⟨e, n', T', H', O'⟩ → ∃ xs, kk xs = some ⟨e, n', T', H', O'⟩ := by
          intro rs
          induction rs with
          | nil => intro kk h; exact ⟨_, h⟩
          | cons r rs ih =>
            intro kk h
            obtain ⟨y, _, h⟩ := oB_some h
            obtain ⟨xs, h⟩ := ih _ h
            exact ⟨_, h⟩
        exact this _ _ h
      generalize pureL xs = q at h
      cases q with
      | true => exact plain _ hnc' (coreOf_ok _ hnc') h
      | false =>
        simp only [cond_false] at h
        obtain ⟨t1, h, ht1⟩ := tmpK_some h
        split at h
        · exact plain _ hnc' (coreOf_ok _ hnc') h
        · rename_i hn
          split at h
          · rename_i t2 h2 hf
            obtain ⟨y, u, rd, h, hX⟩ := coreOf_ok _ hnc' (rstar P run) _ _ _ _ _ h
            obtain ⟨hL, hen, hs⟩ := hk run hrun _ _ _ _ _ _ _ _ _ h
            refine ⟨hL, hen, fun hv t h1 hvw hh => ?_⟩
            obtain ⟨t', h', h5, h3, h4⟩ := hs hv _ _ ((view_frOfL t2).putO o.dst y) (upH_get (fun _ => rfl) n u)
            refine ⟨t', h', h5, h3, fun Q hQ => ?_⟩
            have hp : plainOp o.op = true := by
              revert hl
              generalize o.op = op
              cases op <;> simp [laid, plainOp]
            have hx := hX t2 o (view_frOfL t2) rfl
            obtain ⟨e0, g1, g2, g3, g4⟩ := opX_eff hp hx
            show wpOper P (n + d) o t h1 fun t h => G n t h Q
            rw [wpOper_plain hp, eff2_eq, (eff2_heq hh o.op).1, (eff2_ag hp (ag_of ht1 hvw)).1, hn]
            refine ⟨t2, h2, wkth_frL hvw hh (frz_ok hf), ?_⟩
            rw [g1]
            refine ⟨g2, ?_⟩
            show G n (putA t2 o.dst e0.val) (e0.upd ++ h2) Q
            rw [g3, g4]
            exact h4 Q hQ
          · cases h
    | none =>
      rw [hl] at h
      exact plain _ hnc' (coreOf_ok _ hnc') h
def sameB (b want : Bool) : Bool := match b, want with
  | true, true => true
  | false, false => true
  | _, _ => false
theorem sameB_eq (b want : Bool) : sameB b want = (b == want) := by cases b <;> cases want <;> rfl
def grd (rg : Rd) (want : Bool) (w : Wr) (a k : Stm) : Stm := fun run n T H O => oB (rg T) fun v => match v with
  | .v (.bool b) => bif sameB b want then a run n T H O else k run n (w T (.v undef)) H O
  | .v (.tuple _) => k run n (w T (.v undef)) H O
  | _ => none
def grdO (rg : Rd) (want : Bool) (w : Wr) (a : Stm → Stm) (k : Stm) : Stm := grd rg want w (a k) k
def endF (len : Nat) : Stm := fun _ n T H O => some ⟨.normal, n + 8 * len, T, H, O⟩
def opsF (kl : Bool) (len : Nat) : List SOper → Nat → Stm
  | [], _ => endF len
  | o :: l, d => match o.guard with
    | none => opS kl o d (opsF kl len l (d + 8))
    | some (g, want) => grdO (rdT g) want (wrOp o.dst) (opS kl o d) (opsF kl len l (d + 8))
theorem opsF_ok {P : Program} {kl : Bool} {len : Nat} : ∀ (l : List SOper) (d : Nat), KOk P len (opsF kl len l d) (fun n t h Q => wpOps P (n + d) l t h Q)
  | [], d => by
    intro run hrun n T H O e n' T' H' O' h
    simp only [opsF, endF, Option.some.injEq, XR.mk.injEq] at h
    obtain ⟨rfl, rfl, rfl, rfl, rfl⟩ := h
    exact ⟨⟨[], rfl⟩, ⟨rfl, rfl⟩, fun _ t h hv hh => ⟨t, h, hv, hh, fun Q hQ => hQ⟩⟩
  | o :: l, d => by
    intro run hrun n T H O e n' T' H' O' h
    have ih : KOk P len (opsF kl len l (d + 8)) (fun n t h Q => wpOps P (n + d + 8) l t h Q) := opsF_ok l (d + 8)
    simp only [opsF] at h
    cases hg : o.guard with
    | none =>
      rw [hg] at h
      simp only at h
      obtain ⟨h1, hen, h2⟩ := opS_ok ih run hrun _ _ _ _ _ _ _ _ _ h
      refine ⟨h1, hen, fun hv t h hvw hh => ?_⟩
      obtain ⟨t', h', h3, h4, h5⟩ := h2 hv t h hvw hh
      refine ⟨t', h', h3, h4, fun Q hQ => ?_⟩
      simp only [wpOps, hg]
      exact h5 Q hQ
    | some gw =>
      obtain ⟨g, want⟩ := gw
      rw [hg] at h
      simp only [grdO, grd] at h
      obtain ⟨v, hv0, h⟩ := oB_some h
      have hgt := rdT_get hv0
      split at h
      · rename_i b
        rw [sameB_eq] at h
        cases hw : (b == want) with
        | true =>
          rw [hw] at h
          obtain ⟨h1, hen, h2⟩ := opS_ok ih run hrun _ _ _ _ _ _ _ _ _ h
          refine ⟨h1, hen, fun hv t h hvw hh => ?_⟩
          obtain ⟨t', h', h3, h4, h5⟩ := h2 hv t h hvw hh
          refine ⟨t', h', h3, h4, fun Q hQ => ?_⟩
          have h6 := h5 Q hQ
          simp only [wpOps, hg, hvw _ _ hgt, onG_bool]
          cases b <;> cases want <;> simp_all [Split]
        | false =>
          rw [hw] at h
          obtain ⟨h1, hen, h2⟩ := ih run hrun _ _ _ _ _ _ _ _ _ h
          refine ⟨h1, hen, fun hv t h hvw hh => ?_⟩
          obtain ⟨t', h', h3, h4, h5⟩ := h2 hv _ h (hvw.putO o.dst _) hh
          refine ⟨t', h', h3, h4, fun Q hQ => ?_⟩
          have h6 := h5 Q hQ
          simp only [wpOps, hg, hvw _ _ hgt, onG_bool]
          cases b <;> cases want <;> simp_all [Split]
      · rename_i vs
        obtain ⟨h1, hen, h2⟩ := ih run hrun _ _ _ _ _ _ _ _ _ h
        refine ⟨h1, hen, fun hv t h hvw hh => ?_⟩
        obtain ⟨t', h', h3, h4, h5⟩ := h2 hv _ h (hvw.putO o.dst _) hh
        refine ⟨t', h', h3, h4, fun Q hQ => ?_⟩
        simp only [wpOps, hg, hvw _ _ hgt]
        exact h5 Q hQ
      · cases h
def opD (c : Core) (w : Wr) (d : Nat) (k : DStm) : DStm := fun acc run n T H O => c (n + d) T H fun y u rd => k ((rd, u.map Prod.fst) :: acc) run n (w T y) (upH n u H) O
def opCD (kl : Bool) (f : Rd) (as : List Rd) (w : Wr) (d : Nat) (k : DStm) : DStm := fun acc run n T H O => cCallK kl run (n + d) T H f as fun y u rd o => k ((rd, u.map Prod.fst) :: acc) run n (w T y) (upH n u H) (apO o O)
def opSD (kl : Bool) (o : SOper) (d : Nat) (k : DStm) : DStm := match callO o.op with
  | some p => opCD kl (rdOp p.1) (p.2.map rdOp) (wrOp o.dst) d k
  | none => opD (coreOf o.op) (wrOp o.dst) d k
def grdD (rg : Rd) (want : Bool) (w : Wr) (a k : DStm) : DStm := fun acc run n T H O => oB (rg T) fun v => match v with
  | .v (.bool b) => bif sameB b want then a acc run n T H O else k (([], []) :: acc) run n (w T (.v undef)) H O
  | .v (.tuple _) => k (([], []) :: acc) run n (w T (.v undef)) H O
  | _ => none
def grdDO (rg : Rd) (want : Bool) (w : Wr) (a : DStm → DStm) (k : DStm) : DStm := grdD rg want w (a k) k
def noW : List Foot → Bool
  | [] => true
  | p :: l => match p.2 with
    | [] => noW l
    | _ => false
def clean (x y : Foot) : Bool := match x.2, y.2 with
  | [], [] => true
  | w, v => offB w y.1 && (offB w v && offB v x.1)
def chkA (b : Nat) (y : Foot) : List (Nat × Foot) → Bool
  | [] => true
  | p :: l => bif clean p.2 y then chkA b y l else bif b.testBit p.1 then chkA b y l else false
def okG (bef : List Nat) : Nat → List (Nat × Foot) → List (Nat × Foot) → List Foot → Bool
  | _, _, _, [] => true
  | j, prev, prevW, y :: l => match y.2 with
    | [] => bif chkA (bef.getD j 0) y prevW then okG bef (j + 1) ((j, y) :: prev) prevW l else false
    | _ :: _ => bif chkA (bef.getD j 0) y prev then okG bef (j + 1) ((j, y) :: prev) ((j, y) :: prevW) l else false
def endD (len : Nat) (bef : List Nat) : DStm := fun acc _ n T H O =>
  bif noW acc then some ⟨.normal, n + 8 * len, T, H, O⟩ else bif okG bef 0 [] [] acc.reverse then some ⟨.normal, n + 8 * len, T, H, O⟩ else none
def befOf (ops : List SOper) : List Nat := befGo [] (ops.map (·.after))
def drawF (kl : Bool) (e : DStm) : List SOper → Nat → DStm
  | [], _ => e
  | o :: l, d => match o.guard with
    | none => opSD kl o d (drawF kl e l (d + 8))
    | some (g, want) => grdDO (rdT g) want (wrOp o.dst) (opSD kl o d) (drawF kl e l (d + 8))
def statOk (ops : List SOper) : Bool := okDraw ops (ops.map fun _ => ([], []))
def era (p : SOper × Foot) : SOper × Foot := (p.1, ([], []))
theorem noconf_clean {x y : SOper × Foot} (h1 : noconf (era x) (era y) = true) (h2 : clean x.2 y.2 = true) : noconf x y = true := by
  unfold noconf at h1 ⊢
  simp only [era, offB, List.all_nil, Bool.and_true, Bool.true_and] at h1
  simp only [Bool.and_eq_true] at h1 ⊢
  refine ⟨h1.1, h1.2, ?_⟩
  unfold clean at h2
  split at h2
  · rename_i e1 e2
    rw [e1, e2]
    exact ⟨rfl, rfl, rfl⟩
  · simpa only [Bool.and_eq_true] using h2
theorem okPairs_iff (bef : List Nat) (all : List (SOper × Foot)) : ∀ (l : List (SOper × Foot)) (j : Nat), okPairs bef all j l = true ↔ ∀ k y, l[k]? = some y → ∀ i x, i < j + k → all[i]? = some x → ((bef.getD (j + k) 0).testBit i || noconf x y) = true
  | [], j => by simp [okPairs]
  | y :: l, j => by
    simp only [okPairs, Bool.and_eq_true, okPairs_iff bef all l (j + 1)]
    constructor
    · rintro ⟨h1, h2⟩ k z hk i x hi hx
      cases k with
      | zero =>
        simp only [List.getElem?_cons_zero, Option.some.injEq] at hk
        subst hk
        rw [List.all_eq_true] at h1
        have hm : (x, i) ∈ (all.take j).zipIdx := by
          rw [List.mem_zipIdx_iff_getElem?]
          simp only [List.getElem?_take]
          rw [if_pos (by omega)]
          exact hx
        exact h1 _ hm
      | succ k =>
        have := h2 k z (by simpa using hk) i x (by omega) hx
        rwa [show j + 1 + k = j + (k + 1) by omega] at this
    · intro h
      refine ⟨?_, fun k z hk i x hi hx => ?_⟩
      · rw [List.all_eq_true]
        rintro ⟨x, i⟩ hm
        rw [List.mem_zipIdx_iff_getElem?] at hm
        simp only [List.getElem?_take] at hm
        split at hm
        · exact h 0 y rfl i x (by omega) hm
        · cases hm
      · have := h (k + 1) z (by simpa using hk) i x (by omega) hx
        rwa [show j + (k + 1) = j + 1 + k by omega] at this
theorem chkA_all {b : Nat} {y : Foot} : ∀ {l : List (Nat × Foot)}, chkA b y l = true → ∀ p ∈ l, (b.testBit p.1 || clean p.2 y) = true
  | [], _, p, hp => by simp at hp
  | q :: l, h, p, hp => by
    simp only [chkA] at h
    cases hc : clean q.2 y with
    | true =>
      rw [hc] at h
      rcases List.mem_cons.1 hp with rfl | hp
      · rw [hc, Bool.or_true]
      · exact chkA_all h p hp
    | false =>
      rw [hc] at h
      simp only [cond_false] at h
      cases hb : b.testBit q.1 with
      | false => rw [hb] at h; cases h
      | true =>
        rw [hb] at h
        rcases List.mem_cons.1 hp with rfl | hp
        · rw [hb, Bool.true_or]
        · exact chkA_all h p hp
theorem okG_all {bef : List Nat} : ∀ (l : List Foot) (j : Nat) (prev prevW : List (Nat × Foot)), okG bef j prev prevW l = true → (∀ p ∈ prev, p.2.2 = [] ∨ p ∈ prevW) →
    ∀ k y, l[k]? = some y → (∀ p ∈ prev, ((bef.getD (j + k) 0).testBit p.1 || clean p.2 y) = true) ∧ ∀ i x, i < k → l[i]? = some x → ((bef.getD (j + k) 0).testBit (j + i) || clean x y) = true
  | [], j, prev, prevW, h, hp, k, y, hk => by simp at hk
  | z :: l, j, prev, prevW, h, hp, k, y, hk => by
    have key : ∃ prevW', (∀ p ∈ prev, ((bef.getD j 0).testBit p.1 || clean p.2 z) = true) ∧ okG bef (j + 1) ((j, z) :: prev) prevW' l = true ∧ (∀ p ∈ ((j, z) :: prev), p.2.2 = [] ∨ p ∈ prevW') := by
      simp only [okG] at h
      split at h
      · rename_i hz
        cases hc : chkA (bef.getD j 0) z prevW with
        | false => rw [hc] at h; cases h
        | true =>
          rw [hc] at h
          refine ⟨prevW, fun p hpp => ?_, h, fun p hpp => ?_⟩
          · rcases hp p hpp with h0 | h0
            · have : clean p.2 z = true := by unfold clean; rw [h0, hz]
              rw [this, Bool.or_true]
            · exact chkA_all hc p h0
          · rcases List.mem_cons.1 hpp with rfl | hpp
            · exact .inl hz
            · exact hp p hpp
      · cases hc : chkA (bef.getD j 0) z prev with
        | false => rw [hc] at h; cases h
        | true =>
          rw [hc] at h
          refine ⟨(j, z) :: prevW, chkA_all hc, h, fun p hpp => ?_⟩
          rcases List.mem_cons.1 hpp with rfl | hpp
          · exact .inr (List.mem_cons_self ..)
          · exact (hp p hpp).imp id (List.mem_cons_of_mem _)
    obtain ⟨prevW', h1, h2, h3⟩ := key
    cases k with
    | zero =>
      simp only [List.getElem?_cons_zero, Option.some.injEq] at hk
      subst hk
      exact ⟨h1, fun i x hi _ => absurd hi (by omega)⟩
    | succ k =>
      obtain ⟨h4, h5⟩ := okG_all l (j + 1) _ _ h2 h3 k y (by simpa using hk)
      rw [show j + 1 + k = j + (k + 1) by omega] at h4 h5
      refine ⟨fun p hpp => h4 p (List.mem_cons_of_mem _ hpp), fun i x hi hx => ?_⟩
      cases i with
      | zero =>
        simp only [List.getElem?_cons_zero, Option.some.injEq] at hx
        subst hx
        exact h4 (j, z) (List.mem_cons_self ..)
      | succ i =>
        have := h5 i x (by omega) (by simpa using hx)
        rwa [show j + 1 + i = j + (i + 1) by omega] at this
theorem noW_all : ∀ {acc : List Foot}, noW acc = true → ∀ p ∈ acc, p.2 = []
  | [], _, p, hp => by simp at hp
  | q :: l, h, p, hp => by
    simp only [noW] at h
    split at h
    · rename_i hq
      rcases List.mem_cons.1 hp with rfl | hp
      · exact hq
      · exact noW_all h p hp
    · cases h
theorem zip_era : ∀ (ops : List SOper) (fs : List Foot), fs.length = ops.length → (ops.zip fs).map era = ops.zip (ops.map fun _ => ([], []))
  | [], fs, _ => by simp
  | o :: ops, [], h => by simp at h
  | o :: ops, f :: fs, h => by
    simp only [List.zip_cons_cons, List.map_cons, zip_era ops fs (by simpa using h)]
    rfl
theorem okDraw_dyn {ops : List SOper} {fs : List Foot} (hs : statOk ops = true) (hl : fs.length = ops.length)
    (hd : ∀ k y, fs[k]? = some y → ∀ i x, i < k → fs[i]? = some x → (((befOf ops).getD k 0).testBit i || clean x y) = true) : okDraw ops fs = true := by
  unfold statOk okDraw at hs
  unfold okDraw
  simp only [Bool.and_eq_true] at hs ⊢
  refine ⟨hs.1, ?_⟩
  have h2 := hs.2
  rw [← zip_era ops fs hl] at h2
  rw [okPairs_iff] at h2 ⊢
  intro k y hk i x hi hx
  have h3 := h2 k (era y) (by rw [List.getElem?_map, hk]; rfl) i (era x) hi (by rw [List.getElem?_map, hx]; rfl)
  simp only [Nat.zero_add] at hi h3 ⊢
  have hy : fs[k]? = some y.2 := (List.getElem?_zip_eq_some.1 hk).2
  have hx2 : fs[i]? = some x.2 := (List.getElem?_zip_eq_some.1 hx).2
  have h4 := hd k y.2 hy i x.2 hi hx2
  unfold befOf at h4
  cases hb : ((befGo [] (ops.map (·.after))).getD k 0).testBit i with
  | true => rfl
  | false =>
    rw [hb, Bool.false_or] at h3 h4
    rw [Bool.false_or]
    exact noconf_clean h3 h4
def DOk (P : Program) (len : Nat) (ops : List SOper) (m : Nat) (k : DStm) (G : List Foot → Nat → List (Nat × AV) → Hp → (List Foot → List (Nat × AV) → Hp → Prop) → Prop) : Prop := ∀ run, RunOOk P run → ∀ acc n T H O e n' T' H' O', acc.length + m = ops.length → k acc run n T H O = some ⟨e, n', T', H', O'⟩ →
  (∃ L, O' = L ++ O) ∧ (e = .normal ∧ n' = n + 8 * len) ∧ (Valid P O' → ∀ t h, View t T → HEq' h H → ∃ t' h', View t' T' ∧ HEq' h' H' ∧ ∀ Q : List (Nat × AV) → Hp → Prop, Q t' h' → G acc n t h fun acc t h => okDraw ops acc.reverse = true ∧ Q t h)
theorem endD_ok {P : Program} {len : Nat} {ops : List SOper} (hst : statOk ops = true) : DOk P len ops 0 (endD len (befOf ops)) (fun acc n t h Q => Q acc t h) := by
  intro run hrun acc n T H O e n' T' H' O' hl h
  have key : okDraw ops acc.reverse = true ∧ some (⟨.normal, n + 8 * len, T, H, O⟩ : XR) = some ⟨e, n', T', H', O'⟩ := by
    simp only [endD] at h
    cases hb : noW acc with
    | true =>
      rw [hb] at h
      refine ⟨okDraw_dyn hst (by rw [List.length_reverse]; omega) fun k y hk i x _ hx => ?_, h⟩
      have h1 := noW_all hb y (List.mem_reverse.1 (List.mem_of_getElem? hk))
      have h2 := noW_all hb x (List.mem_reverse.1 (List.mem_of_getElem? hx))
      have : clean x y = true := by unfold clean; rw [h1, h2]
      rw [this, Bool.or_true]
    | false =>
      rw [hb] at h
      simp only [cond_false] at h
      cases ho : okG (befOf ops) 0 [] [] acc.reverse with
      | true =>
        rw [ho] at h
        refine ⟨okDraw_dyn hst (by rw [List.length_reverse]; omega) fun k y hk i x hi hx => ?_, h⟩
        have := (okG_all _ 0 [] [] ho (fun p hp => by simp at hp) k y hk).2 i x hi hx
        simpa only [Nat.zero_add] using this
      | false => rw [ho] at h; cases h
  obtain ⟨ho, h⟩ := key
  simp only [Option.some.injEq, XR.mk.injEq] at h
  obtain ⟨rfl, rfl, rfl, rfl, rfl⟩ := h
  exact ⟨⟨[], rfl⟩, ⟨rfl, rfl⟩, fun _ t h hv hh => ⟨t, h, hv, hh, fun Q hQ => ⟨ho, hQ⟩⟩⟩
theorem opSD_ok {P : Program} {kl : Bool} {len : Nat} {ops : List SOper} {m : Nat} {o : SOper} {d : Nat} {k : DStm} {G : List Foot → Nat → List (Nat × AV) → Hp → (List Foot → List (Nat × AV) → Hp → Prop) → Prop} (hk : DOk P len ops m k G) :
    DOk P len ops (m + 1) (opSD kl o d k) fun acc n t h Q => wpOpD P (n + d) o t h fun r => G ((r.rd, r.upd.map Prod.fst) :: acc) n (putA t o.dst r.val) (r.upd ++ h) Q := by
  intro run hrun acc n T H O e n' T' H' O' hlen h
  unfold opSD at h
  cases hcl : callO o.op with
  | some p =>
    obtain ⟨f, as⟩ := p
    have hop := callO_some hcl
    rw [hcl] at h
    simp only [opCD] at h hop
    obtain ⟨y, u, rd, O1, h, hC⟩ := cCallK_some hrun h
    obtain ⟨⟨L, hL⟩, hen, hs⟩ := hk run hrun _ _ _ _ _ _ _ _ _ _ (by simp only [List.length_cons]; omega) h
    rw [apO_eq] at hL
    refine ⟨⟨L ++ O1, by rw [hL, List.append_assoc]⟩, hen, fun hv t h1 hvw hh => ?_⟩
    have hv1 : Valid P O1 := by rw [hL] at hv; exact hv.app.2.app.1
    obtain ⟨t', h', h2, h3, h4⟩ := hs hv _ _ (hvw.putO o.dst y) (upH_get hh n u)
    refine ⟨t', h', h2, h3, fun Q hQ => ?_⟩
    simp only [wpOpD, hop]
    exact hC hv1 t h1 hvw hh _ fun g xs hCD => ⟨_, hCD, h4 Q hQ⟩
  | none =>
    have hnc' : ∀ f as, o.op ≠ .call f as := callO_none hcl
    rw [hcl] at h
    simp only [opD] at h
    obtain ⟨y, u, rd, h, hX⟩ := coreOf_ok _ hnc' (rstar P run) _ _ _ _ _ h
    obtain ⟨hL, hen, hs⟩ := hk run hrun _ _ _ _ _ _ _ _ _ _ (by simp only [List.length_cons]; omega) h
    refine ⟨hL, hen, fun hv t h1 hvw hh => ?_⟩
    obtain ⟨t', h', h2, h3, h4⟩ := hs hv _ _ (hvw.putO o.dst y) (upH_get hh n u)
    refine ⟨t', h', h2, h3, fun Q hQ => ?_⟩
    have hx := hX t o hvw rfl
    rw [← opX_heq hh hnc'] at hx
    exact opX_wpD (rstar_ok hrun) hx _ (h4 Q hQ)
theorem drawF_ok {P : Program} {kl : Bool} {len : Nat} {ops : List SOper} {e : DStm} (he : DOk P len ops 0 e (fun acc n t h Q => Q acc t h)) : ∀ (l : List SOper) (d : Nat), DOk P len ops l.length (drawF kl e l d) (fun acc n t h Q => wpDrawL P (n + d) l acc t h Q)
  | [], d => he
  | o :: l, d => by
    intro run hrun acc n T H O e n' T' H' O' hlen h
    have ih : DOk P len ops l.length (drawF kl _ l (d + 8)) (fun acc n t h Q => wpDrawL P (n + d + 8) l acc t h Q) := drawF_ok he l (d + 8)
    simp only [drawF] at h
    cases hg : o.guard with
    | none =>
      rw [hg] at h
      simp only at h
      obtain ⟨h1, hen, h2⟩ := opSD_ok ih run hrun _ _ _ _ _ _ _ _ _ _ hlen h
      refine ⟨h1, hen, fun hv t h hvw hh => ?_⟩
      obtain ⟨t', h', h3, h4, h5⟩ := h2 hv t h hvw hh
      refine ⟨t', h', h3, h4, fun Q hQ => ?_⟩
      simp only [wpDrawL, hg]
      exact h5 Q hQ
    | some gw =>
      obtain ⟨g, want⟩ := gw
      rw [hg] at h
      simp only [grdDO, grdD] at h
      obtain ⟨v, hv0, h⟩ := oB_some h
      have hgt := rdT_get hv0
      split at h
      · rename_i b
        rw [sameB_eq] at h
        cases hw : (b == want) with
        | true =>
          rw [hw] at h
          obtain ⟨h1, hen, h2⟩ := opSD_ok ih run hrun _ _ _ _ _ _ _ _ _ _ hlen h
          refine ⟨h1, hen, fun hv t h hvw hh => ?_⟩
          obtain ⟨t', h', h3, h4, h5⟩ := h2 hv t h hvw hh
          refine ⟨t', h', h3, h4, fun Q hQ => ?_⟩
          have h6 := h5 Q hQ
          simp only [wpDrawL, hg, hvw _ _ hgt, onG_bool]
          cases b <;> cases want <;> simp_all [Split]
        | false =>
          rw [hw] at h
          obtain ⟨h1, hen, h2⟩ := ih run hrun _ _ _ _ _ _ _ _ _ _ (by simp only [List.length_cons] at hlen ⊢; omega) h
          refine ⟨h1, hen, fun hv t h hvw hh => ?_⟩
          obtain ⟨t', h', h3, h4, h5⟩ := h2 hv _ h (hvw.putO o.dst _) hh
          refine ⟨t', h', h3, h4, fun Q hQ => ?_⟩
          have h6 := h5 Q hQ
          simp only [wpDrawL, hg, hvw _ _ hgt, onG_bool]
          cases b <;> cases want <;> simp_all [Split]
      · rename_i vs
        obtain ⟨h1, hen, h2⟩ := ih run hrun _ _ _ _ _ _ _ _ _ _ (by simp only [List.length_cons] at hlen ⊢; omega) h
        refine ⟨h1, hen, fun hv t h hvw hh => ?_⟩
        obtain ⟨t', h', h3, h4, h5⟩ := h2 hv _ h (hvw.putO o.dst _) hh
        refine ⟨t', h', h3, h4, fun Q hQ => ?_⟩
        simp only [wpDrawL, hg, hvw _ _ hgt]
        exact h5 Q hQ
      · cases h
end Go.Eng

namespace Go.Eng
open Go
def skipF : Stm := fun _ n T H O => some ⟨.normal, n, T, H, O⟩
def exitF (i : Nat) : Stm := fun _ n T H O => some ⟨.exit i, n, T, H, O⟩
def retF : Stm := fun _ n T H O => some ⟨.ret, n, T, H, O⟩
def xB (x : RR) (k : Exit → Nat → Fr → Hp → List Use → RR) : RR := match x with
  | some ⟨e, n, T, H, O⟩ => k e n T H O
  | none => none
theorem xB_some {x : RR} {k : Exit → Nat → Fr → Hp → List Use → RR} {r} (h : xB x k = some r) : ∃ e n T H O, x = some ⟨e, n, T, H, O⟩ ∧ k e n T H O = some r := by
  cases x with
  | none => cases h
  | some x => obtain ⟨e, n, T, H, O⟩ := x; exact ⟨e, n, T, H, O, rfl, h⟩
def seqF (a b : Stm) : Stm := fun run n T H O => xB (a run n T H O) fun e n T H O => match e with
  | .normal => b run n T H O
  | e => some ⟨e, n, T, H, O⟩
def condF (c : Rd) (a b : Stm) : Stm := fun run n T H O => oB (c T) fun v => match v with
  | .v (.bool true) => a run n T H O
  | .v (.bool false) => b run n T H O
  | _ => none
def blockF (id : Nat) (a : Stm) : Stm := fun run n T H O => xB (a run n T H O) fun e n T H O => match e with
  | .exit i => bif Nat.beq i id then some ⟨.normal, n, T, H, O⟩ else some ⟨.exit i, n, T, H, O⟩
  | e => some ⟨e, n, T, H, O⟩
def gcF (T : Fr) (H : Hp) (k : Fr → Hp → RR) : RR := bif Nat.ble H.length 40 then k T H else match frz [] (frL T) H with
  | some (t, h) => k (frOfL t) h
  | none => k T H
def loopF (a : Stm) : Nat → Stm
  | 0 => fun _ _ _ _ _ => none
  | f + 1 => fun run n T H O => xB (a run n T H O) fun e n T H O => match e with
    | .normal => gcF T H fun T H => loopF a f run n T H O
    | e => some ⟨e, n, T, H, O⟩
def defOf : List SOper → Nat → Option SOp
  | [], _ => none
  | o :: l, k => match o.dst with
    | some d => bif Nat.beq d k then some o.op else defOf l k
    | none => defOf l k
def trc (ops : List SOper) : Nat → Operand → List Operand
  | 0, _ => []
  | f + 1, .tmp k => match defOf ops k with
    | none => [.tmp k]
    | some (.mov x) => trc ops f x
    | some (.load _ _ x) => trc ops f x
    | some (.faddr _ x) => trc ops f x
    | some (.nilc x) => trc ops f x
    | some (.fld _ _ _ x) => trc ops f x
    | some (.build _ ps) => ps.flatMap fun p => trc ops f p.2.2
    | _ => []
  | _ + 1, _ => []
def isEl (ops : List SOper) : Nat → Operand → Bool
  | 0, _ => false
  | f + 1, .tmp k => match defOf ops k with
    | some (.mov x) => isEl ops f x
    | some (.iaddr _ _ _) => true
    | some (.faddr _ x) => isEl ops f x
    | some (.nilc x) => isEl ops f x
    | _ => false
  | _ + 1, _ => false
def preO (ops : List SOper) : List Operand := ops.flatMap fun o => match o.op with
  | .bslice _ _ _ _ ps => ps.flatMap fun p => trc ops 8 p.2
  | .mput _ _ x => trc ops 8 x
  | .store _ x y => bif isEl ops 8 x then trc ops 8 y else []
  | _ => []
def zsOf (rs : List Rd) (T : Fr) (H : Hp) : List Nat := match rs with
  | [] => []
  | r :: l => (match r T with
    | some (.ptr b _) => match get H b with
      | some (.box cs) => bif pureL cs then [] else rowN H (deepL cs)
      | _ => []
    | some x => bif x.pure then [] else rowN H (deep x)
    | none => []) ++ zsOf l T H
def preF (rs : List Rd) (k : Stm) : Stm := match rs with
  | [] => k
  | rs => fun run n T H O => match zsOf rs T H with
    | [] => k run n T H O
    | Z => match frz Z.eraseDups (frL T) H with
      | some (t, h) => k run n (frOfL t) h O
      | none => k run n T H O
def callA (ops : List SOper) : List Operand := ops.flatMap fun o => match o.op with
  | .call _ xs => xs.flatMap (trc ops 8)
  | _ => []
def rtyF (rs : List Rd) (k : Bool → Stm) : Stm := match rs with
  | [] => k true
  | rs => fun run n T H O => match k false run n T H O with
    | some x => some x
    | none => match zsOf rs T H with
      | [] => k true run n T H O
      | Z => match frz Z.eraseDups (frL T) H with
        | some (t, h) => match k false run n (frOfL t) h O with
          | some x => some x
          | none => k true run n T H O
        | none => k true run n T H O
def comp : SCode → Stm
  | .skip => skipF
  | .region ops true => rtyF ((callA ops).map rdOp) fun kl => preF ((preO ops).map rdOp) (drawF kl (endD ops.length (befOf ops)) ops 0 [])
  | .region ops false => rtyF ((callA ops).map rdOp) fun kl => opsF kl ops.length ops 0
  | .seq a b => seqF (comp a) (comp b)
  | .cond c x y => condF (rdOp c) (comp x) (comp y)
  | .block id c => blockF id (comp c)
  | .loop c => loopF (comp c) 100000
  | .exit id => exitF id
  | .ret => retF
def allStat : SCode → Bool
  | .region ops true => statOk ops
  | .seq a b => allStat a && allStat b
  | .cond _ a b => allStat a && allStat b
  | .block _ c => allStat c
  | .loop c => allStat c
  | _ => true
def Wps (P : Program) (sc : SCode) (Q : Exit → St → Prop) (s : St) : Prop := P.follows .mixedOrders = true → ∀ (C : Ctx) (c : Code), stripCode P c = some sc → okCode C.nt sc = true →
  ∀ (K : Exit → Act → World → Prop) (a : Act) (w : World), At C s a w → (∀ e s' a' w', At C s' a' w' → Q e s' → K e a' w') → c.wp P K a w
theorem Wps.of {P : Program} {sc : SCode} {Q : Exit → St → Prop} {s : St} (h : wpc P sc Q s) : Wps P sc Q s :=
  fun hm C c hs hok K a w hA hK => wpc_sound hm c sc hs hok Q K s a w hA h hK
theorem Wps.wk {P : Program} {sc : SCode} {Q : Exit → St → Prop} {s s' : St} (hw : Wk s s') (h : Wps P sc Q s') : Wps P sc Q s :=
  fun hm C c hs hok K a w hA hK => h hm C c hs hok K a w (hw.at hA) hK
theorem Wps.seq {P : Program} {x y : SCode} {Q : Exit → St → Prop} {s : St} (h : Wps P x (seqK (Wps P y Q) Q) s) : Wps P (.seq x y) Q s := by
  intro hm C c hs hok K a w hA hK
  cases c with
  | seq cx cy =>
    simp only [stripCode] at hs
    split at hs
    · rename_i x' hx
      split at hs
      · rename_i y' hy
        cases hs
        simp only [okCode, Bool.and_eq_true] at hok
        refine wp_seq (h hm C cx hx hok.1 _ a w hA fun e s' a' w' hA' hQ => ?_)
        cases e with
        | normal => exact hQ hm C cy hy hok.2 K a' w' hA' hK
        | exit i => exact hK _ _ _ _ hA' hQ
        | goto l => exact hK _ _ _ _ hA' hQ
        | ret => exact hK _ _ _ _ hA' hQ
        | panic ch => exact hK _ _ _ _ hA' hQ
        | outgrown => exact hK _ _ _ _ hA' hQ
      · cases hs
    · cases hs
  | _ => simp only [stripCode] at hs <;> (try split at hs) <;> (try split at hs) <;> cases hs
theorem Wps.cond {P : Program} {c : Operand} {x y : SCode} {Q : Exit → St → Prop} {s : St} {b : Bool} (hb : ev s.t c = some (.v (.bool b))) (h : Wps P (bif b then x else y) Q s) : Wps P (.cond c x y) Q s := by
  intro hm C c' hs hok K a w hA hK
  cases c' with
  | cond c0 cx cy =>
    simp only [stripCode] at hs
    split at hs
    · rename_i x' hx
      split at hs
      · rename_i y' hy
        cases hs
        simp only [okCode, Bool.and_eq_true] at hok
        have hA0 := hA
        obtain ⟨ρ, U, hS, hU⟩ := hA
        have hc := (ev_ok hS.tm hb).v_inv
        refine wp_cond_split hc (fun hb1 => ?_) (fun hb1 => ?_)
        · subst hb1; exact h hm C cx hx hok.1 K a w hA0 hK
        · subst hb1; exact h hm C cy hy hok.2 K a w hA0 hK
      · cases hs
    · cases hs
  | _ => simp only [stripCode] at hs <;> (try split at hs) <;> (try split at hs) <;> cases hs
theorem Wps.block {P : Program} {id : Nat} {x : SCode} {Q : Exit → St → Prop} {s : St} (h : Wps P x (blockK id Q) s) : Wps P (.block id x) Q s := by
  intro hm C c hs hok K a w hA hK
  cases c with
  | block id' cx =>
    simp only [stripCode] at hs
    split at hs
    · rename_i c' hc
      cases hs
      simp only [okCode] at hok
      refine wp_block (h hm C cx hc hok _ a w hA fun e s' a' w' hA' hQ => ?_)
      cases e with
      | exit i =>
        simp only [blockK] at hQ
        simp only [Exit.inBlock]
        split
        · rename_i h; rw [if_pos h] at hQ; exact hK _ _ _ _ hA' hQ
        · rename_i h; rw [if_neg h] at hQ; exact hK _ _ _ _ hA' hQ
      | normal => exact hK _ _ _ _ hA' hQ
      | goto l => exact hK _ _ _ _ hA' hQ
      | ret => exact hK _ _ _ _ hA' hQ
      | panic ch => exact hK _ _ _ _ hA' hQ
      | outgrown => exact hK _ _ _ _ hA' hQ
    · cases hs
  | _ => simp only [stripCode] at hs <;> (try split at hs) <;> (try split at hs) <;> cases hs
theorem Wps.loop {P : Program} {x : SCode} {Q : Exit → St → Prop} {s : St} (h : wpLoop (Wps P x) Q s) : Wps P (.loop x) Q s := by
  intro hm C c hs hok K a w hA hK
  cases c with
  | loop cx =>
    simp only [stripCode] at hs
    split at hs
    · rename_i c' hc
      cases hs
      simp only [okCode] at hok
      obtain ⟨α, S, μ, a0, hW, hb⟩ := h
      refine wp_loop (fun a w => ∃ x, At C (S x) a w) (leastAt C S μ) ⟨a0, hW.at hA⟩ fun a w hI => ?_
      obtain ⟨x0, hx0⟩ := hI
      obtain ⟨_, x, hx, hA'⟩ := leastAt_spec (μ := μ) hx0
      refine hb x hm C cx hc hok _ a w hA' fun e s' a' w' hA'' hQ => ?_
      cases e with
      | normal =>
        obtain ⟨x', hlt, hW'⟩ := hQ
        have h1 := hW'.at hA''
        refine ⟨⟨x', h1⟩, ?_⟩
        have := (leastAt_spec (μ := μ) h1).1
        omega
      | exit i => exact hK _ _ _ _ hA'' hQ
      | goto l => exact hK _ _ _ _ hA'' hQ
      | ret => exact hK _ _ _ _ hA'' hQ
      | panic ch => exact hK _ _ _ _ hA'' hQ
      | outgrown => exact hK _ _ _ _ hA'' hQ
    · cases hs
  | _ => simp only [stripCode] at hs <;> (try split at hs) <;> (try split at hs) <;> cases hs
def Goes (P : Program) (sc : SCode) (s : St) (e : Exit) (s' : St) : Prop := ∀ Q : Exit → St → Prop, Q e s' → Wps P sc Q s
def StmOk (P : Program) (k : Stm) (sc : SCode) : Prop := ∀ run, RunOOk P run → ∀ n T H O e n' T' H' O', k run n T H O = some ⟨e, n', T', H', O'⟩ →
  (∃ L, O' = L ++ O) ∧ (Valid P O' → ∀ t h, View t T → HEq' h H → ∃ t' h', View t' T' ∧ HEq' h' H' ∧ Goes P sc ⟨n, t, h⟩ e ⟨n', t', h'⟩)
theorem loop_of {P : Program} {c : SCode} {s s' : St} {e : Exit} (he : e ≠ .normal) (n : Nat) (S : Nat → St) (h0 : S 0 = s) (h1 : ∀ i, i < n → ∃ s1, Goes P c (S i) .normal s1 ∧ Wk s1 (S (i + 1))) (h2 : Goes P c (S n) e s') : Goes P (.loop c) s e s' := by
  intro Q hQ
  refine Wps.loop ?_
  refine ⟨{i : Nat // i ≤ n}, fun i => S i.1, fun i => n - i.1, ⟨0, Nat.zero_le _⟩, ?_, fun i => ?_⟩
  · simp only [h0]; exact Wk.rfl'
  · obtain ⟨i, hi⟩ := i
    rcases Nat.lt_or_ge i n with hlt | hge
    · obtain ⟨s1, h5, h6⟩ := h1 i hlt
      exact h5 _ ⟨⟨i + 1, hlt⟩, by simp only; omega, h6⟩
    · have : i = n := by omega
      subst this
      refine h2 _ ?_
      cases e with
      | normal => exact absurd rfl he
      | _ => exact hQ
theorem wk_of {n : Nat} {t t2 : List (Nat × AV)} {h h2 : Hp} (hw : WkTH t h t2 h2) : Wk ⟨n, t, h⟩ ⟨n, t2, h2⟩ := by
  intro C ρ U a w hr hU
  obtain ⟨ρ', U', h1, h2⟩ := hw C ρ U a w ⟨hr.hr, hr.defers, hr.sz, hr.tm⟩
  exact ⟨ρ', U', ⟨h1.hr, h1.defers, h1.sz, h1.tm⟩, fun b hb => hU b (h2 b hb)⟩
theorem gcF_some {T : Fr} {H : Hp} {k : Fr → Hp → RR} {r} (h : gcF T H k = some r) : ∃ T2 H2, k T2 H2 = some r ∧ ∀ n t h, View t T → HEq' h H → ∃ t2 h2, View t2 T2 ∧ HEq' h2 H2 ∧ Wk ⟨n, t, h⟩ ⟨n, t2, h2⟩ := by
  have same : k T H = some r → ∃ T2 H2, k T2 H2 = some r ∧ ∀ n t h, View t T → HEq' h H → ∃ t2 h2, View t2 T2 ∧ HEq' h2 H2 ∧ Wk ⟨n, t, h⟩ ⟨n, t2, h2⟩ :=
    fun h => ⟨T, H, h, fun n t h hv hh => ⟨t, h, hv, hh, Wk.rfl'⟩⟩
  unfold gcF at h
  generalize Nat.ble H.length 40 = q at h
  cases q with
  | true => exact same h
  | false =>
    simp only [cond_false] at h
    split at h
    · rename_i t2 h2 hf
      exact ⟨_, _, h, fun n t h1 hv hh => ⟨t2, h2, view_frOfL t2, fun _ => rfl, wk_of (wkth_frL hv hh (frz_ok hf))⟩⟩
    · exact same h
theorem loopF_ok {P : Program} {a : Stm} {c : SCode} (ha : StmOk P a c) (run : RunO) (hrun : RunOOk P run) : ∀ (f : Nat) n T H O e n' T' H' O', loopF a f run n T H O = some ⟨e, n', T', H', O'⟩ →
    (∃ L, O' = L ++ O) ∧ e ≠ .normal ∧ (Valid P O' → ∀ t h, View t T → HEq' h H → ∃ t' h', View t' T' ∧ HEq' h' H' ∧
      ∃ (m : Nat) (S : Nat → St), S 0 = ⟨n, t, h⟩ ∧ (∀ i, i < m → ∃ s1, Goes P c (S i) .normal s1 ∧ Wk s1 (S (i + 1))) ∧ Goes P c (S m) e ⟨n', t', h'⟩) := by
  intro f
  induction f with
  | zero => intro n T H O e n' T' H' O' h; cases h
  | succ f ih =>
    intro n T H O e n' T' H' O' h
    simp only [loopF] at h
    obtain ⟨e1, n1, T1, H1, O1, h1, h⟩ := xB_some h
    obtain ⟨⟨L1, hL1⟩, hs1⟩ := ha run hrun _ _ _ _ _ _ _ _ _ h1
    split at h
    · obtain ⟨T2, H2, h, hgc⟩ := gcF_some h
      obtain ⟨⟨L2, hL2⟩, hne, hs2⟩ := ih _ _ _ _ _ _ _ _ _ h
      refine ⟨⟨L2 ++ L1, by rw [hL2, hL1, List.append_assoc]⟩, hne, fun hv t h3 hvw hh => ?_⟩
      obtain ⟨t1, h4, g1, g2, g3⟩ := hs1 (by rw [hL2] at hv; exact hv.app.2) t h3 hvw hh
      obtain ⟨t2, h5, g4, g5, g6⟩ := hgc n1 t1 h4 g1 g2
      obtain ⟨t', h', g7, g8, m, S, g9, g10, g11⟩ := hs2 hv t2 h5 g4 g5
      refine ⟨t', h', g7, g8, m + 1, fun i => match i with | 0 => ⟨n, t, h3⟩ | i + 1 => S i, rfl, fun i hi => ?_, g11⟩
      cases i with
      | zero => exact ⟨_, g3, by simp only [g9]; exact g6⟩
      | succ i => exact g10 i (by omega)
    · rename_i hne
      simp only [Option.some.injEq, XR.mk.injEq] at h
      obtain ⟨rfl, rfl, rfl, rfl, rfl⟩ := h
      refine ⟨⟨L1, hL1⟩, fun he => hne he, fun hv t h3 hvw hh => ?_⟩
      obtain ⟨t1, h4, g1, g2, g3⟩ := hs1 hv t h3 hvw hh
      exact ⟨t1, h4, g1, g2, 0, fun _ => ⟨n, t, h3⟩, rfl, fun i hi => absurd hi (by omega), g3⟩
theorem and1 {a b : Bool} (h : (a && b) = true) : a = true := by cases a <;> simp_all
theorem and2 {a b : Bool} (h : (a && b) = true) : b = true := by cases a <;> simp_all
theorem rtyF_ok {P : Program} {rs : List Rd} {k : Bool → Stm} {sc : SCode} (hk : ∀ kl, StmOk P (k kl) sc) : StmOk P (rtyF rs k) sc := by
  intro run hrun n T H O e n' T' H' O' h
  cases rs with
  | nil => exact hk true run hrun _ _ _ _ _ _ _ _ _ h
  | cons r rs =>
    simp only [rtyF] at h
    split at h
    · rename_i x hx
      cases h
      exact hk false run hrun _ _ _ _ _ _ _ _ _ hx
    · split at h
      · exact hk true run hrun _ _ _ _ _ _ _ _ _ h
      · split at h
        · rename_i t2 h2 hf
          split at h
          · rename_i x hx
            cases h
            obtain ⟨h1, h3⟩ := hk false run hrun _ _ _ _ _ _ _ _ _ hx
            refine ⟨h1, fun hv t h4 hvw hh => ?_⟩
            obtain ⟨t', h', h5, h6, h7⟩ := h3 hv t2 h2 (view_frOfL t2) (fun _ => rfl)
            exact ⟨t', h', h5, h6, fun Q hQ => (h7 Q hQ).wk (wk_of (wkth_frL hvw hh (frz_ok hf)))⟩
          · exact hk true run hrun _ _ _ _ _ _ _ _ _ h
        · exact hk true run hrun _ _ _ _ _ _ _ _ _ h
theorem comp_ok {P : Program} : ∀ (sc : SCode), allStat sc = true → StmOk P (comp sc) sc
  | .skip => by
    intro hst run hrun n T H O e n' T' H' O' h
    simp only [comp, skipF, Option.some.injEq, XR.mk.injEq] at h
    obtain ⟨rfl, rfl, rfl, rfl, rfl⟩ := h
    exact ⟨⟨[], rfl⟩, fun _ t h hv hh => ⟨t, h, hv, hh, fun Q hQ => Wps.of hQ⟩⟩
  | .exit i => by
    intro hst run hrun n T H O e n' T' H' O' h
    simp only [comp, exitF, Option.some.injEq, XR.mk.injEq] at h
    obtain ⟨rfl, rfl, rfl, rfl, rfl⟩ := h
    exact ⟨⟨[], rfl⟩, fun _ t h hv hh => ⟨t, h, hv, hh, fun Q hQ => Wps.of hQ⟩⟩
  | .ret => by
    intro hst run hrun n T H O e n' T' H' O' h
    simp only [comp, retF, Option.some.injEq, XR.mk.injEq] at h
    obtain ⟨rfl, rfl, rfl, rfl, rfl⟩ := h
    exact ⟨⟨[], rfl⟩, fun _ t h hv hh => ⟨t, h, hv, hh, fun Q hQ => Wps.of hQ⟩⟩
  | .region ops true => by
    intro hst
    simp only [comp]
    apply rtyF_ok
    intro kl run hrun n T H O e n' T' H' O' h
    have main : ∀ T H, drawF kl (endD ops.length (befOf ops)) ops 0 [] run n T H O = some ⟨e, n', T', H', O'⟩ → (∃ L, O' = L ++ O) ∧ (Valid P O' → ∀ t h, View t T → HEq' h H → ∃ t' h', View t' T' ∧ HEq' h' H' ∧ Goes P (.region ops true) ⟨n, t, h⟩ e ⟨n', t', h'⟩) := by
      intro T H h
      obtain ⟨h1, ⟨rfl, rfl⟩, h2⟩ := drawF_ok (endD_ok hst) ops 0 run hrun _ _ _ _ _ _ _ _ _ _ (by simp) h
      refine ⟨h1, fun hv t h hvw hh => ?_⟩
      obtain ⟨t', h', h3, h4, h5⟩ := h2 hv t h hvw hh
      refine ⟨t', h', h3, h4, fun Q hQ => Wps.of ?_⟩
      simp only [wpc, if_true, wpDraw]
      exact h5 (fun t h => Q .normal ⟨n + 8 * ops.length, t, h⟩) hQ
    cases hrs : (preO ops).map rdOp with
    | nil => rw [hrs] at h; exact main T H h
    | cons r rs =>
      rw [hrs] at h
      simp only [preF] at h
      split at h
      · exact main T H h
      · split at h
        · rename_i t2 h2 hf
          obtain ⟨h1, h3⟩ := main _ _ h
          refine ⟨h1, fun hv t h4 hvw hh => ?_⟩
          obtain ⟨t', h', h5, h6, h7⟩ := h3 hv t2 h2 (view_frOfL t2) (fun _ => rfl)
          exact ⟨t', h', h5, h6, fun Q hQ => (h7 Q hQ).wk (wk_of (wkth_frL hvw hh (frz_ok hf)))⟩
        · exact main T H h
  | .region ops false => by
    intro hst
    simp only [comp]
    apply rtyF_ok
    intro kl run hrun n T H O e n' T' H' O' h
    obtain ⟨h1, ⟨rfl, rfl⟩, h2⟩ := opsF_ok ops 0 run hrun _ _ _ _ _ _ _ _ _ h
    refine ⟨h1, fun hv t h hvw hh => ?_⟩
    obtain ⟨t', h', h3, h4, h5⟩ := h2 hv t h hvw hh
    refine ⟨t', h', h3, h4, fun Q hQ => Wps.of ?_⟩
    simp only [wpc, Bool.false_eq_true, if_false]
    exact h5 (fun t h => Q .normal ⟨n + 8 * ops.length, t, h⟩) hQ
  | .seq a b => by
    intro hst run hrun n T H O e n' T' H' O' h
    simp only [comp, seqF] at h
    obtain ⟨e1, n1, T1, H1, O1, h1, h⟩ := xB_some h
    obtain ⟨⟨L1, hL1⟩, hs1⟩ := comp_ok a (and1 hst) run hrun _ _ _ _ _ _ _ _ _ h1
    split at h
    · obtain ⟨⟨L2, hL2⟩, hs2⟩ := comp_ok b (and2 hst) run hrun _ _ _ _ _ _ _ _ _ h
      refine ⟨⟨L2 ++ L1, by rw [hL2, hL1, List.append_assoc]⟩, fun hv t h hvw hh => ?_⟩
      obtain ⟨t1, h4, g1, g2, g3⟩ := hs1 (by rw [hL2] at hv; exact hv.app.2) t h hvw hh
      obtain ⟨t2, h5, g4, g5, g6⟩ := hs2 hv t1 h4 g1 g2
      exact ⟨t2, h5, g4, g5, fun Q hQ => Wps.seq (g3 _ (g6 _ hQ))⟩
    · rename_i hne
      simp only [Option.some.injEq, XR.mk.injEq] at h
      obtain ⟨rfl, rfl, rfl, rfl, rfl⟩ := h
      refine ⟨⟨L1, hL1⟩, fun hv t h hvw hh => ?_⟩
      obtain ⟨t1, h4, g1, g2, g3⟩ := hs1 hv t h hvw hh
      refine ⟨t1, h4, g1, g2, fun Q hQ => Wps.seq (g3 _ ?_)⟩
      cases e1 with
      | normal => exact absurd rfl hne
      | _ => exact hQ
  | .cond c x y => by
    intro hst run hrun n T H O e n' T' H' O' h
    simp only [comp, condF] at h
    obtain ⟨v, hv0, h⟩ := oB_some h
    split at h
    · obtain ⟨h1, h2⟩ := comp_ok x (and1 hst) run hrun _ _ _ _ _ _ _ _ _ h
      refine ⟨h1, fun hv t h hvw hh => ?_⟩
      obtain ⟨t', h', h3, h4, h5⟩ := h2 hv t h hvw hh
      exact ⟨t', h', h3, h4, fun Q hQ => Wps.cond (b := true) (rdOp_ok c T _ hv0 t hvw) (h5 Q hQ)⟩
    · obtain ⟨h1, h2⟩ := comp_ok y (and2 hst) run hrun _ _ _ _ _ _ _ _ _ h
      refine ⟨h1, fun hv t h hvw hh => ?_⟩
      obtain ⟨t', h', h3, h4, h5⟩ := h2 hv t h hvw hh
      exact ⟨t', h', h3, h4, fun Q hQ => Wps.cond (b := false) (rdOp_ok c T _ hv0 t hvw) (h5 Q hQ)⟩
    · cases h
  | .block id c => by
    intro hst run hrun n T H O e n' T' H' O' h
    simp only [comp, blockF] at h
    obtain ⟨e1, n1, T1, H1, O1, h1, h⟩ := xB_some h
    obtain ⟨⟨L1, hL1⟩, hs1⟩ := comp_ok c hst run hrun _ _ _ _ _ _ _ _ _ h1
    split at h
    · rename_i i
      cases hb : Nat.beq i id with
      | true =>
        rw [hb] at h
        simp only [cond_true, Option.some.injEq, XR.mk.injEq] at h
        obtain ⟨rfl, rfl, rfl, rfl, rfl⟩ := h
        refine ⟨⟨L1, hL1⟩, fun hv t h hvw hh => ?_⟩
        obtain ⟨t1, h4, g1, g2, g3⟩ := hs1 hv t h hvw hh
        refine ⟨t1, h4, g1, g2, fun Q hQ => Wps.block (g3 _ ?_)⟩
        simp only [blockK, if_pos (Nat.eq_of_beq_eq_true hb)]
        exact hQ
      | false =>
        rw [hb] at h
        simp only [cond_false, Option.some.injEq, XR.mk.injEq] at h
        obtain ⟨rfl, rfl, rfl, rfl, rfl⟩ := h
        refine ⟨⟨L1, hL1⟩, fun hv t h hvw hh => ?_⟩
        obtain ⟨t1, h4, g1, g2, g3⟩ := hs1 hv t h hvw hh
        refine ⟨t1, h4, g1, g2, fun Q hQ => Wps.block (g3 _ ?_)⟩
        simp only [blockK, if_neg (Nat.ne_of_beq_eq_false hb)]
        exact hQ
    · rename_i hne
      simp only [Option.some.injEq, XR.mk.injEq] at h
      obtain ⟨rfl, rfl, rfl, rfl, rfl⟩ := h
      refine ⟨⟨L1, hL1⟩, fun hv t h hvw hh => ?_⟩
      obtain ⟨t1, h4, g1, g2, g3⟩ := hs1 hv t h hvw hh
      refine ⟨t1, h4, g1, g2, fun Q hQ => Wps.block (g3 _ ?_)⟩
      cases e1 with
      | exit i => exact absurd rfl (hne i)
      | _ => exact hQ
  | .loop c => by
    intro hst run hrun n T H O e n' T' H' O' h
    simp only [comp] at h
    obtain ⟨h1, hne, h2⟩ := loopF_ok (comp_ok c hst) run hrun _ _ _ _ _ _ _ _ _ _ h
    refine ⟨h1, fun hv t h hvw hh => ?_⟩
    obtain ⟨t', h', h3, h4, m, S, g1, g2, g3⟩ := h2 hv t h hvw hh
    exact ⟨t', h', h3, h4, loop_of hne m S g1 g2 g3⟩
def retK (T : Fr) (H : Hp) (l : List SRes) (k : List AV → Option RO) : Option RO := match l with
  | [] => k []
  | .tmp j :: l => match rdT j T with
    | some x => retK T H l fun xs => k (x :: xs)
    | none => none
  | .cell j ag sz :: l => match rdT j T with
    | some (.ptr b 0) => match get H b with
      | some (.box cs) => bif ag then (bif Nat.beq sz cs.length then retK T H l fun xs => k (.agg cs :: xs) else none) else match cs with
        | c :: _ => retK T H l fun xs => k (c :: xs)
        | [] => none
      | _ => none
    | _ => none
structure FunF where
  st : Stm
  res : List SRes
  nt : Nat
  dp : Bool
def FunFOk (P : Program) (f : FuncId) (F : FunF) : Prop := ∃ sc, StmOk P F.st sc ∧ FnOk P f sc F.res F.nt
def runS (F : FunF) (run : RunO) (xs : List AV) (H : Hp) : Option RO := match F.st run 8 (frOf xs 0 fr0) H [] with
  | some ⟨.normal, n, T, H, O⟩ => retK T H F.res fun vs => some ⟨vs, H, O, F.dp⟩
  | some ⟨.ret, n, T, H, O⟩ => retK T H F.res fun vs => some ⟨vs, H, O, F.dp⟩
  | _ => none
abbrev Hook := FuncId → List AV → List (List AV) → Option (AV × List (List AV))
def noHook : Hook := fun _ _ _ => none
theorem FnG.of_wpc {P : Program} {f : FuncId} {sc : SCode} {res : List SRes} {nt : Nat} (hok : FnOk P f sc res nt) {xs : List AV} {bs : List (List AV)} {gs : List Ob} {r : AV} {bs' : List (List AV)} {es : List Ob} {Q : Exit → St → Prop}
    (hQ : ∀ e s, Q e s → (e = .normal ∨ e = .ret) ∧ ∃ H, HEq' s.h H ∧ Fin res r bs' es s.t H)
    (hn : xs.length ≤ nt) (hgo : Wps P sc Q ⟨8, tFrom 0 xs, outs bs gs⟩) : FnG P f xs bs gs r bs' es := by
  obtain ⟨⟨fn, c, hf, hnm, hb, hs, hres, hr4, rfl⟩, hoc, hm⟩ := hok
  refine ⟨⟨fn, hf, hnm, by rw [hb]; rfl⟩, fun C ρ U w vals hr hU hv => ?_⟩
  let C1 : Ctx := { C with nt := fn.ntmps }
  have hr1 : HR C1 ρ U (outs bs gs) w := ⟨hr.hp, hr.hd, hr.inj, hr.os, hr.tape, hr.output, hr.size, hr.old, hr.okl, hr.ownl, hr.fix⟩
  refine calls_of_wp hf hb (hgo hm C1 c hs hoc _ _ w ⟨ρ, U, ⟨hr1, fun k x hk => ?_, rfl, ?_⟩, fun b hb => hU b hb⟩ fun e s a w' hA hq => ?_)
  · rw [get_tFrom] at hk
    simp only [Nat.zero_le, if_true, Nat.sub_zero] at hk
    have hlt : k < vals.size := by rw [← hv.1]; exact (List.getElem?_eq_some_iff.1 hk).1
    refine ⟨vals[k], ?_, hv.2 k x _ hk (Array.getElem?_eq_getElem hlt)⟩
    simp [Array.getElem?_append, hlt]
  · have := hv.1
    simp only [Array.size_append, Array.size_replicate]
    show _ = fn.ntmps
    omega
  · obtain ⟨he, H, hh, hF⟩ := hQ e s hq
    have fin : a.defers = [] ∧ ∃ v, (results fn a.tmps).run P w' = .ok v w' ∧ ∃ v_1 ρ' U', Ending.returned v = Ending.returned v_1 ∧ HR C ρ' U' (outs bs' es) w' ∧ VR w' (okc C ρ' w') ρ' U' r v_1 := by
      obtain ⟨S, N, ys, h1, h2, h3, h4, h5⟩ := hF
      obtain ⟨ρ1, U1, hS0, _⟩ := hA
      have hSr := hS0.hr.heq hh
      obtain ⟨vs, h6, h7, h8, h9⟩ := retV_ok (P := P) hSr hS0.tm fn.results.toList res ys hres h1
      refine ⟨hS0.defers, _, results_eq a.tmps w' rfl h6 hr4 h8, _, newLoc ρ1 S N, newU S N, rfl, ?_, ?_⟩
      · have := rv_hr hSr h2 h3 h4
        exact ⟨this.hp, this.hd, this.inj, this.os, this.tape, this.output, this.size, this.old, this.okl, this.ownl, this.fix⟩
      · exact rv_vr hSr (retOne_ok (by omega) h9) r h5
    rcases he with rfl | rfl
    · exact fin
    · exact fin
theorem FnG.of_use {P : Program} {f : FuncId} {xs : List AV} {bs : List (List AV)} {r : AV} {bs' : List (List AV)} (hF : FnG P f xs bs [] r bs' []) {r1 : AV} {bs1 : List (List AV)} {es1 : List Ob}
    (hfin : Fin [.tmp 0] r1 bs1 es1 [(0, r)] (outs bs' [])) : FnG P f xs bs [] r1 bs1 es1 := by
  refine ⟨hF.1, fun C ρ U w vals hr hU hv => ?_⟩
  obtain ⟨S, N, ys, h1, h2, h3, h4, h5⟩ := hfin
  have hys : ys = [r] := by simpa [retV, get] using h1.symm
  subst hys
  refine (hF.2 C ρ U w vals hr hU hv).mono fun e w' hp => ?_
  obtain ⟨v, ρ', U', rfl, g1, g2⟩ := hp
  exact ⟨v, newLoc ρ' S N, newU S N, rfl, rv_hr g1 h2 h3 h4, rv_vr g1 g2 r1 h5⟩
def SmOk (P : Program) (sm : Hook) : Prop := ∀ f xs bs r bs', sm f xs bs = some (r, bs') → FnG P f xs bs [] r bs' []
end Go.Eng

namespace Go.Eng
open Go
def N16.allI {α : Type} (p : Nat → α → Prop) (n : N16 α) : Prop :=
  p 0 n.a0 ∧ p 1 n.a1 ∧ p 2 n.a2 ∧ p 3 n.a3 ∧ p 4 n.a4 ∧ p 5 n.a5 ∧ p 6 n.a6 ∧ p 7 n.a7 ∧ p 8 n.a8 ∧ p 9 n.a9 ∧ p 10 n.a10 ∧ p 11 n.a11 ∧ p 12 n.a12 ∧ p 13 n.a13 ∧ p 14 n.a14 ∧ p 15 n.a15
theorem N16.allI_get {α : Type} {p : Nat → α → Prop} {n : N16 α} (h : n.allI p) {k : Nat} (hk : k < 16) : p k (n.get k) := by
  obtain ⟨h0, h1, h2, h3, h4, h5, h6, h7, h8, h9, h10, h11, h12, h13, h14, h15⟩ := h
  rcases lt16 hk with rfl | rfl | rfl | rfl | rfl | rfl | rfl | rfl | rfl | rfl | rfl | rfl | rfl | rfl | rfl | rfl <;> assumption
def OptOk (P : Program) (f : FuncId) (x : Option FunF) : Prop := ∀ F, x = some F → FunFOk P f F
theorem OptOk.none {P : Program} {f : FuncId} : OptOk P f none := fun F h => by cases h
theorem OptOk.some {P : Program} {f : FuncId} {sc : SCode} {st : Stm} {res : List SRes} {nt : Nat} {dp : Bool} (h : FnOk P f sc res nt) (hst : allStat sc = true) (hc : st = comp sc) : OptOk P f (some ⟨st, res, nt, dp⟩) := fun F e => by
  cases e
  exact ⟨sc, hc ▸ comp_ok sc hst, h⟩
end Go.Eng
