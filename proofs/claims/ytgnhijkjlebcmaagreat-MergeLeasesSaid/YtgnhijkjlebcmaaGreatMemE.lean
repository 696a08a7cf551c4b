/-
  The memory machine: an executor for the translated code, and that it does what the code does.
  No condition: definitions and lemmas.
-/
import Derived.Test.YtgnhijkjlebcmaaGreatMemD
import Derived.LoopN
set_option linter.all false
set_option maxHeartbeats 1000000
namespace Go.M
open Go
open Go.Eng (SOp SOper SCode stripOper stripOps stripCode)
noncomputable section
variable [Ctxt]
section
variable {P : Program} {cx : Cx} {ops : Array Oper} {o : Oper} {nt : Nat}
theorem stripOper_some {draw : Bool} {so : SOper} (hs : stripOper P ops draw o = some so) :
    Go.Eng.strip P o = some so.op ∧ so.dst = o.dst ∧ (so.guard = none ↔ o.guard = none) ∧ ∀ g wt, so.guard = some (g, wt) → ∃ j, o.guard = some (j, wt) ∧ ((ops[j]?).bind (·.dst)) = some g := by
  unfold stripOper at hs
  split at hs
  · rename_i sp hsp
    split at hs
    · rename_i hg
      cases hs
      exact ⟨hsp, rfl, by simp [hg], fun g wt e => by simp at e⟩
    · rename_i j wt hg
      split at hs
      · rename_i g hgd
        cases hs
        refine ⟨hsp, rfl, by simp [hg], fun g' wt' e => ?_⟩
        simp only [Option.some.injEq, Prod.mk.injEq] at e
        obtain ⟨rfl, rfl⟩ := e
        exact ⟨j, hg, hgd⟩
      · cases hs
  · cases hs
theorem stripOps_cons {draw : Bool} {l : List Oper} {sl : List SOper} (hs : stripOps P ops draw (o :: l) = some sl) :
    ∃ so sl', sl = so :: sl' ∧ stripOper P ops draw o = some so ∧ stripOps P ops draw l = some sl' := by
  unfold stripOps at hs
  split at hs
  · rename_i so hso
    split at hs
    · rename_i sl' hsl
      cases hs
      exact ⟨so, sl', rfl, hso, hsl⟩
    · cases hs
  · cases hs
theorem okD_some {PV : List Nat} {draw : Bool} {so : SOper} (h : okD nt PV draw so = true) : ∀ t, so.dst = some t → t < nt ∧ (mem PV t = true → isNew so.op = true) ∧ isSto so.op = false := fun t ht => by
  unfold okD at h
  rw [ht] at h
  have h' : (Nat.blt t nt && ((!(mem PV t) || isNew so.op) && !(isSto so.op))) = true := h
  simp only [Bool.and_eq_true, Bool.or_eq_true, Bool.not_eq_true'] at h'
  refine ⟨by simpa [Nat.blt_eq] using h'.1, fun hm => ?_, h'.2.2⟩
  rcases h'.2.1 with h1 | h1
  · rw [hm] at h1; cases h1
  · exact h1
theorem lnk_of {draw : Bool} {so : SOper} {flo : Bool} {vp : Option (Option Nat)} (hs : stripOper P ops draw o = some so) (hd : okD nt cx.PV draw so = true) : Lnk P cx ops o ⟨so.dst, so.op, so.guard, flo, vp⟩ := by
  obtain ⟨h1, h2, h3, h4⟩ := stripOper_some hs
  refine ⟨h1, h2, fun hg => h3.1 hg, h4, fun t ht hm => (okD_some hd t ht).2.1 hm, fun sz x y hop => ?_⟩
  show so.dst = none
  cases ht : so.dst with
  | none => rfl
  | some t =>
    have := (okD_some hd t ht).2.2
    have hop : so.op = .store sz x y := hop
    rw [hop] at this; cases this
def At (cx : Cx) (B : Bs) (en : En) (fr : FX) (l : Loc) (h : Hp) (a : Act) (w : World) : Prop := ∃ V γ, SR B V h w a γ (sta cx en fr l)
theorem At.le {B : Bs} {en en' : En} {fr fr' : FX} {l l' : Loc} {h : Hp} {a : Act} {w : World} (hA : At cx B en fr l h a w) (hl : (sta cx en' fr' l').le (sta cx en fr l)) : At cx B en' fr' l' h a w := by
  obtain ⟨V, γ, hs⟩ := hA
  exact ⟨V, γ, hs.le hl⟩
theorem kd_fl {h h' : Hp} {kd : Kd} {ol : OL} (hk : KdOk cx h ol kd) (hfn : h.fl ≤ h.n) (hl : HLe (kdF h kd) h h') : HLe h.fl h h' ∧ ∀ fl, kd = .heap fl → fl = h.n ∨ fl = h.fl := by
  cases kd with
  | pure LC => exact ⟨hl.weak hfn, fun fl e => by cases e⟩
  | heap fl =>
    obtain ⟨_, _, hh, _⟩ := hk
    have h2 : fl = h.n ∨ fl = h.fl := hh.imp id fun hh => hh.1
    refine ⟨hl.weak ?_, fun fl' e => by cases e; exact h2⟩
    show h.fl ≤ fl
    rcases h2 with e | e <;> omega
  | store p => exact ⟨hl.weak hfn, fun fl e => by cases e⟩
  | new p => exact ⟨hl.weak hfn, fun fl e => by cases e⟩
theorem exOps_ok (hcl : CallsOk P cx.cl) {FL : List Nat} {draw : Bool} : ∀ (lo : List Oper) {sl : List SOper} {en : En} {fr : FX} {l : Loc} {h : Hp} {k : Kc} {r : List Prop} {kn : En → FR}, stripOps P ops draw lo = some sl → (sl.all fun o => okD nt cx.PV draw o) = true →
    (exOps cx kn (plainL FL sl) en).f fr l h k = some r → Wf cx en l → h.fl ≤ h.n → ∃ en' l' h', (kn en').f fr l' h' k = some r ∧ Wf cx en' l' ∧ HLe h.fl h h' ∧
      ((∀ p ∈ h'.fa, p) → ∀ (B : Bs) a w (K : Exit → Act → World → Prop), B.fl = h.fl → HLe B.fl B.h h → B.nt = nt → At cx B en fr l h a w → (∀ a' w', At cx B en' fr l' h' a' w' → K .normal a' w') → wpList P ops K lo a w)
  | [], sl, en, fr, l, h, k, r, kn, hs, _, e, hw, hfn => by
    simp only [stripOps, Option.some.injEq] at hs
    subst hs
    exact ⟨en, l, h, e, hw, .refl _ _, fun _ B a w K _ _ _ hA hK => hK a w hA⟩
  | o :: lo, sl, en, fr, l, h, k, r, kn, hs, hd, e, hw, hfn => by
    obtain ⟨so, sl', rfl, hso, hsl⟩ := stripOps_cons hs
    simp only [List.all_cons, Bool.and_eq_true] at hd
    have e1 : (plan so.op cx ⟨so.dst, so.op, so.guard, inFL FL so, none⟩ en (exOps cx kn (plainL FL sl'))).f fr l h k = some r := e
    have hL := lnk_of (cx := cx) (flo := inFL FL so) (vp := none) hso hd.1
    obtain ⟨en1, l1, h1, kd, sv, var, g1, g2, g3, g4, g5, _, g6⟩ := plan_ok (ol := ⟨so.dst, so.op, so.guard, inFL FL so, none⟩) hcl hL hw hfn e1
    obtain ⟨g4', g7⟩ := kd_fl g5 hfn g4
    have hfn1 : h1.fl ≤ h1.n := by have := g4'.fe; have := g4'.n; omega
    obtain ⟨en2, l2, h2, q1, q2, q3, q4⟩ := exOps_ok hcl lo hsl hd.2 g1 g2 hfn1
    have q3' : HLe h.fl h1 h2 := by rw [← g4'.fe]; exact q3
    refine ⟨en2, l2, h2, q1, q2, g4'.trans q3', fun hfa B a w K hBf hBh hBn hA hK => ?_⟩
    obtain ⟨V, γ, hSR⟩ := hA
    have hst := hSR.step (o := o) (ops := ops) (P := P) hBh hBf hfn g4 g7 (fun t ht => by rw [hBn]; exact (okD_some hd.1 t (by rw [(stripOper_some hso).2.1]; exact ht)).1)
      (fun p hp => by subst hp; have := g5.2.1; rw [← (stripOper_some hso).2.1]; exact this)
      (fun p hp => by subst hp; have := g5.2.1; rw [← (stripOper_some hso).2.1]; exact this)
      (g6 fun p hp => hfa p (q3.fa p hp))
    have hgw := hst (wpList P ops K lo) K fun v w' ⟨V', γ', hSR'⟩ => q4 hfa B _ w' K (hBf.trans g4'.fe.symm) (hBh.trans (by rw [hBf]; exact g4')) hBn ⟨V', γ', hSR'.le (by rw [← (stripOper_some hso).2.1]; exact g3)⟩ hK
    simp only [wpList]
    by_cases hwd : Region.wanted o (yielded ops a.tmps) = true
    · rw [if_pos hwd] at hgw ⊢; exact .inl hgw
    · rw [if_neg hwd] at hgw ⊢; exact hgw
def DrawOk (P : Program) (cx : Cx) (nt : Nat) : Prop := ∀ (ops : Array Oper) {sl : List SOper} {en : En} {fr : FX} {l : Loc} {h : Hp} {k : Kc} {r : List Prop} {kn : En → FR}, stripOps P ops true ops.toList = some sl → (sl.all fun o => okD nt cx.PV true o) = true → okDraw cx.PV cx.FL sl = true →
    (exOps cx kn (drawL (aliases cx.PV sl []) cx.PV cx.FL sl) en).f fr l h k = some r → Wf cx en l → en.A = [] → h.fl ≤ h.n → ∃ en' l' h', (kn en').f fr l' h' k = some r ∧ Wf cx en' l' ∧ HLe h.fl h h' ∧
      ((∀ p ∈ h'.fa, p) → ∀ (B : Bs) a w (K : Exit → Act → World → Prop), B.fl = h.fl → HLe B.fl B.h h → B.nt = nt → At cx B en fr l h a w → (∀ a' w', At cx B en' fr l' h' a' w' → K .normal a' w') → wpAny P .any ops K ops.size (Array.replicate ops.size false) a w)
theorem noA_ok {en : En} {fr : FX} {l : Loc} (hw : Wf cx en l) : Wf cx (noA en) l ∧ (sta cx (noA en) fr l).le (sta cx en fr l) := by
  have hW : Wf cx (noA en) l := ⟨hw.n, fun k d h => ⟨(hw.T k d h).1, (hw.T k d h).2.1, rfl⟩, hw.C, fun k a h => (by cases h), List.Pairwise.nil⟩
  have hS : Stb cx fr en l (noA en) l none none := ⟨fun k _ => rfl, fun k a _ h => (by cases h), fun q _ => rfl, fun d _ => rfl⟩
  exact ⟨hW, fun k v hk => hS.staT hw hW (fun q x hq => by cases hq) k (by simp) v hk, fun p x hp => (hS.staC hw p (by simp)).symm.trans hp⟩
def ExR (e : Nat) (e' : Exit) : Prop := (e = 1 ∧ e' = .ret) ∨ ∃ id, e = id + 2 ∧ e' = .exit id
def Semc (P : Program) (cx : Cx) (nt : Nat) (c : Code) (en : En) (fr : FX) (l : Loc) (h : Hp) (en' : En) (fr' : FX) (l' : Loc) (h' : Hp) (R : Exit → Prop) : Prop :=
  (∀ p ∈ h'.fa, p) → ∀ (B : Bs) a w, B.fl = h.fl → HLe B.fl B.h h → B.nt = nt → At cx B en fr l h a w → c.wp P (fun e' a' w' => R e' ∧ At cx B en' fr' l' h' a' w') a w
def Fwd (P : Program) (cx : Cx) (nt : Nat) (c : Code) (en : En) (fr : FX) (l : Loc) (h : Hp) (k : Kc) (r : List Prop) (kn : En → FR) : Prop :=
  (∃ en' fr' l' h', (kn en').f fr' l' h' k = some r ∧ Wf cx en' l' ∧ HLe h.fl h h' ∧ Semc P cx nt c en fr l h en' fr' l' h' (· = .normal)) ∨
  ∃ e fr' h', e ≠ 0 ∧ k e fr' h' = some r ∧ HLe h.fl h h' ∧ Semc P cx nt c en fr l h en0 fr' [] h' (ExR e)
theorem HLe.fln {h h' : Hp} (hl : HLe h.fl h h') (hf : h.fl ≤ h.n) : h'.fl ≤ h'.n := by have := hl.fe; have := hl.n; omega
theorem HLe.tr {h h' h'' : Hp} (a : HLe h.fl h h') (b : HLe h'.fl h' h'') : HLe h.fl h h'' := a.trans (by rw [← a.fe]; exact b)
theorem Semc.mono {c c' : Code} {en en' en2 : En} {fr fr' fr2 : FX} {l l' l2 : Loc} {h h' : Hp} {R R' : Exit → Prop} (hs : Semc P cx nt c en fr l h en' fr' l' h' R) (hl : (sta cx en2 fr2 l2).le (sta cx en' fr' l'))
    (hc : ∀ (Q : Exit → Act → World → Prop) a w, c.wp P Q a w → (∀ e a w, Q e a w → R e) → ∀ Q', (∀ e a w, Q e a w → ∀ e', R' e' → Q' e' a w) → c'.wp P Q' a w) : Semc P cx nt c' en fr l h en2 fr2 l2 h' R' := fun hfa B a w h1 h2 h3 hA =>
  hc _ a w (hs hfa B a w h1 h2 h3 hA) (fun e a w hh => hh.1) _ fun e a w hh e' he' => ⟨he', hh.2.le hl⟩
theorem loopB_ok {c : Code} {f : FR} {k : Kc} {r : List Prop} (hf : ∀ {fr : FX} {h : Hp} {k : Kc} {r : List Prop}, h.fl ≤ h.n → f.f fr [] h k = some r → ∃ e fr' h', k e fr' h' = some r ∧ HLe h.fl h h' ∧ Semc P cx nt c en0 fr [] h en0 fr' [] h' (fun e' => if e = 0 then e' = .normal else ExR e e')) :
    ∀ (n : Nat) {fr : FX} {h : Hp}, h.fl ≤ h.n → (loopB f n).f fr [] h k = some r → ∃ e fr' h', e ≠ 0 ∧ k e fr' h' = some r ∧ HLe h.fl h h' ∧
      ((∀ p ∈ h'.fa, p) → ∀ (B : Bs) a w, B.fl = h.fl → HLe B.fl B.h h → B.nt = nt → At cx B en0 fr [] h a w → Code.rounds P c (fun e' a' w' => ExR e e' ∧ At cx B en0 fr' [] h' a' w') n a w)
  | 0, fr, h, _, e => by cases e
  | n + 1, fr, h, hfn, e => by
    have e1 : f.f fr [] h (fun e fr h => cndR (Nat.beq e 0) ((loopB f n).f fr [] h k) (k e fr h)) = some r := e
    obtain ⟨e0, fr1, h1, g1, g2, g3⟩ := hf hfn e1
    rcases cndR_some g1 with ⟨t, g4⟩ | ⟨t, g4⟩
    · have t := beqT t
      subst t
      obtain ⟨e', fr2, h2, q1, q2, q3, q4⟩ := loopB_ok hf n (g2.fln hfn) g4
      refine ⟨e', fr2, h2, q1, q2, g2.tr q3, fun hfa B a w hBf hBh hBn hA => ?_⟩
      rw [rounds_succ]
      refine Code.wp_mono (fun ex a' w' hh => ?_) (g3 (fun p hp => hfa p (q3.fa p hp)) B a w hBf hBh hBn hA)
      obtain ⟨hh1, hh2⟩ := hh
      simp only [if_true] at hh1
      subst hh1
      exact q4 hfa B a' w' (hBf.trans g2.fe.symm) (hBh.trans (by rw [hBf]; exact g2)) hBn hh2
    · have t := beqF t
      refine ⟨e0, fr1, h1, t, g4, g2, fun hfa B a w hBf hBh hBn hA => ?_⟩
      rw [rounds_succ]
      refine Code.wp_mono (fun ex a' w' hh => ?_) (g3 hfa B a w hBf hBh hBn hA)
      obtain ⟨hh1, hh2⟩ := hh
      rw [if_neg t] at hh1
      rcases hh1 with ⟨h5, rfl⟩ | ⟨id, h5, rfl⟩
      · exact ⟨.inl ⟨h5, rfl⟩, hh2⟩
      · exact ⟨.inr ⟨id, h5, rfl⟩, hh2⟩
theorem fwd_end {c : Code} {en : En} {fr : FX} {l : Loc} {h : Hp} {k : Kc} {r : List Prop} (hG : cx.G.length ≤ 64) (hf : Fwd P cx nt c en fr l h k r (endR cx 0)) :
    ∃ e fr' h', k e fr' h' = some r ∧ HLe h.fl h h' ∧ Semc P cx nt c en fr l h en0 fr' [] h' (fun e' => if e = 0 then e' = .normal else ExR e e') := by
  rcases hf with ⟨en', fr', l', h', g1, g2, g3, g4⟩ | ⟨e, fr', h', g0, g1, g3, g4⟩
  · obtain ⟨fr2, q1, q2⟩ := endR_some hG g2 g1
    exact ⟨0, fr2, h', q1, g3, g4.mono q2 fun Q a w hw hR Q' hQ => Code.wp_mono (fun e a w hh => hQ e a w hh e (by have := hR e a w hh; simpa using this)) hw⟩
  · exact ⟨e, fr', h', g1, g3, g4.mono (.refl _) fun Q a w hw hR Q' hQ => Code.wp_mono (fun e' a w hh => hQ e' a w hh e' (by rw [if_neg g0]; exact hR e' a w hh)) hw⟩
theorem exC_ok (hcl : CallsOk P cx.cl) (hdr : DrawOk P cx nt) (hm : P.follows .mixedOrders = true) (hG : cx.G.length ≤ 64) (c : Code) : ∀ (sc : SCode), stripCode P c = some sc → okC nt cx.PV cx.FL sc = true →
    ∀ {en : En} {fr : FX} {l : Loc} {h : Hp} {k : Kc} {r : List Prop} {kn : En → FR}, Wf cx en l → h.fl ≤ h.n → (exC cx sc en kn).f fr l h k = some r → Fwd P cx nt c en fr l h k r kn := by
  induction c with
  | skip =>
    intro sc hs _ en fr l h k r kn hw hfn e
    cases hs
    exact .inl ⟨en, fr, l, h, e, hw, .refl _ _, fun _ B a w _ _ _ hA => wp_skip ⟨rfl, hA⟩⟩
  | region id ops draw =>
    intro sc hs hok en fr l h k r kn hw hfn e
    simp only [stripCode] at hs
    split at hs
    · rename_i sl hl
      cases hs
      simp only [okC, Bool.and_eq_true] at hok
      cases draw with
      | true =>
        have hok2 : okDraw cx.PV cx.FL sl = true := by simpa using hok.2
        obtain ⟨hwA, hleA⟩ := noA_ok (fr := fr) hw
        obtain ⟨en', l', h', g1, g2, g3, g4⟩ := hdr ops hl hok.1 hok2 e hwA rfl hfn
        refine .inl ⟨en', fr, l', h', g1, g2, g3, fun hfa B a w hBf hBh hBn hA => wp_region_any hm ?_⟩
        refine g4 hfa B a _ _ hBf hBh hBn ?_ fun a' w' hA' => ⟨rfl, hA'⟩
        obtain ⟨V, γ, hs⟩ := hA.le hleA
        refine ⟨V, γ, ⟨⟨hs.mr.nb, fun b hb => (hs.mr.bl b hb).world rfl, hs.mr.inj, hs.mr.nw, hs.mr.old, hs.mr.sz, hs.mr.os, hs.mr.tape, hs.mr.output, hs.mr.ar⟩, ⟨hs.stp.ext, hs.stp.new, hs.stp.keep, hs.stp.size⟩, hs.tm, fun p x hp => ?_, hs.inj, hs.df, hs.sz, hs.b0⟩⟩
        exact hs.vr p x hp
      | false =>
        obtain ⟨en', l', h', g1, g2, g3, g4⟩ := exOps_ok (nt := nt) hcl ops.toList hl hok.1 e hw hfn
        exact .inl ⟨en', fr, l', h', g1, g2, g3, fun hfa B a w hBf hBh hBn hA => wp_region_list (g4 hfa B a w _ hBf hBh hBn hA fun a' w' hA' => ⟨rfl, hA'⟩)⟩
    · cases hs
  | seq x y ihx ihy =>
    intro sc hs hok en fr l h k r kn hw hfn e
    simp only [stripCode] at hs
    split at hs
    · rename_i x' hx
      split at hs
      · rename_i y' hy
        cases hs
        simp only [okC, Bool.and_eq_true] at hok
        have e1 : (exC cx x' en fun en => exC cx y' en kn).f fr l h k = some r := e
        rcases ihx x' hx hok.1 hw hfn e1 with ⟨en1, fr1, l1, h1, g1, g2, g3, g4⟩ | ⟨e', fr1, h1, g0, g1, g3, g4⟩
        · rcases ihy y' hy hok.2 g2 (g3.fln hfn) g1 with ⟨en2, fr2, l2, h2, q1, q2, q3, q4⟩ | ⟨e', fr2, h2, q0, q1, q3, q4⟩
          · refine .inl ⟨en2, fr2, l2, h2, q1, q2, g3.tr q3, fun hfa B a w hBf hBh hBn hA => wp_seq (Code.wp_mono (fun ex a' w' hh => ?_) (g4 (fun p hp => hfa p (q3.fa p hp)) B a w hBf hBh hBn hA))⟩
            obtain ⟨rfl, hA'⟩ := hh
            exact q4 hfa B a' w' (hBf.trans g3.fe.symm) (hBh.trans (by rw [hBf]; exact g3)) hBn hA'
          · refine .inr ⟨e', fr2, h2, q0, q1, g3.tr q3, fun hfa B a w hBf hBh hBn hA => wp_seq (Code.wp_mono (fun ex a' w' hh => ?_) (g4 (fun p hp => hfa p (q3.fa p hp)) B a w hBf hBh hBn hA))⟩
            obtain ⟨rfl, hA'⟩ := hh
            exact q4 hfa B a' w' (hBf.trans g3.fe.symm) (hBh.trans (by rw [hBf]; exact g3)) hBn hA'
        · refine .inr ⟨e', fr1, h1, g0, g1, g3, fun hfa B a w hBf hBh hBn hA => wp_seq (Code.wp_mono (fun ex a' w' hh => ?_) (g4 hfa B a w hBf hBh hBn hA))⟩
          obtain ⟨hR, hA'⟩ := hh
          rcases hR with ⟨h5, rfl⟩ | ⟨id, h5, rfl⟩
          · exact ⟨.inl ⟨h5, rfl⟩, hA'⟩
          · exact ⟨.inr ⟨id, h5, rfl⟩, hA'⟩
      · cases hs
    · cases hs
  | cond c x y ihx ihy =>
    intro sc hs hok en fr l h k r kn hw hfn e
    simp only [stripCode] at hs
    split at hs
    · rename_i x' hx
      split at hs
      · rename_i y' hy
        cases hs
        simp only [okC, Bool.and_eq_true] at hok
        have e1 : (oR (acOf cx en c) fun t => cnd (noN x') (twoF t (exC cx x' en fun _ => frN) (exC cx y' en kn)) (cnd (noN y') (twoF t (exC cx x' en kn) (exC cx y' en fun _ => frN)) (joinF t (exC cx x' en (endR cx 0)) (exC cx y' en (endR cx 0)) (kn en0)))).f fr l h k = some r := e
        obtain ⟨t, ht, e2⟩ := oR_some e1
        have hden : ∀ {B : Bs} {a : Act} {w : World}, At cx B en fr l h a w → ∃ V, den V (t.g fr l) (a.eval c) := fun {B a w} hA => by
          obtain ⟨V, γ, hs⟩ := hA
          exact ⟨V, acOf_den (LT := tmpOf c) hw (fun k _ sv hk => hs.tm k sv hk) (fun j hj => hj) ht⟩
        have armX : ∀ {en' fr' l' h' R}, (t.g fr l).n = 33 → Semc P cx nt x en fr l h en' fr' l' h' R → Semc P cx nt (.cond c x y) en fr l h en' fr' l' h' R := fun {en' fr' l' h' R} hn hs hfa B a w h1 h2 h3 hA => by
          obtain ⟨V, hd⟩ := hden hA
          exact wp_cond_split (den_boolT hn hd) (fun _ => hs hfa B a w h1 h2 h3 hA) (fun h => by cases h)
        have armY : ∀ {en' fr' l' h' R}, (t.g fr l).n = 1 → Semc P cx nt y en fr l h en' fr' l' h' R → Semc P cx nt (.cond c x y) en fr l h en' fr' l' h' R := fun {en' fr' l' h' R} hn hs hfa B a w h1 h2 h3 hA => by
          obtain ⟨V, hd⟩ := hden hA
          exact wp_cond_split (den_boolF hn hd) (fun h => by cases h) (fun _ => hs hfa B a w h1 h2 h3 hA)
        have fX : ∀ {k r kn}, (t.g fr l).n = 33 → Fwd P cx nt x en fr l h k r kn → Fwd P cx nt (.cond c x y) en fr l h k r kn := fun {k r kn} hn hf => by
          rcases hf with ⟨en', fr', l', h', g1, g2, g3, g4⟩ | ⟨e, fr', h', g0, g1, g3, g4⟩
          · exact .inl ⟨en', fr', l', h', g1, g2, g3, armX hn g4⟩
          · exact .inr ⟨e, fr', h', g0, g1, g3, armX hn g4⟩
        have fY : ∀ {k r kn}, (t.g fr l).n = 1 → Fwd P cx nt y en fr l h k r kn → Fwd P cx nt (.cond c x y) en fr l h k r kn := fun {k r kn} hn hf => by
          rcases hf with ⟨en', fr', l', h', g1, g2, g3, g4⟩ | ⟨e, fr', h', g0, g1, g3, g4⟩
          · exact .inl ⟨en', fr', l', h', g1, g2, g3, armY hn g4⟩
          · exact .inr ⟨e, fr', h', g0, g1, g3, armY hn g4⟩
        have bad : ∀ {c : Code}, Fwd P cx nt c en fr l h k r (fun _ => frN) → Fwd P cx nt c en fr l h k r kn := fun {c} hf => by
          rcases hf with ⟨en', fr', l', h', g1, _⟩ | hh
          · cases g1
          · exact .inr hh
        have two : ∀ {X Y : FR}, (twoF t X Y).f fr l h k = some r → ((t.g fr l).n = 33 ∧ X.f fr l h k = some r) ∨ ((t.g fr l).n = 1 ∧ Y.f fr l h k = some r) := fun {X Y} e => by
          have e' : cndR (Nat.beq (t.g fr l).n 33) (X.f fr l h k) (cndR (Nat.beq (t.g fr l).n 1) (Y.f fr l h k) none) = some r := e
          rcases cndR_some e' with ⟨h1, h2⟩ | ⟨_, h2⟩
          · exact .inl ⟨beqT h1, h2⟩
          · obtain ⟨h1, h2⟩ := cndR_t h2
            exact .inr ⟨beqT h1, h2⟩
        cases hnx : noN x' with
        | true =>
          rw [hnx] at e2
          rcases two e2 with ⟨hn, e3⟩ | ⟨hn, e3⟩
          · exact fX hn (bad (ihx x' hx hok.1 hw hfn e3))
          · exact fY hn (ihy y' hy hok.2 hw hfn e3)
        | false =>
          rw [hnx] at e2
          cases hny : noN y' with
          | true =>
            rw [hny] at e2
            rcases two e2 with ⟨hn, e3⟩ | ⟨hn, e3⟩
            · exact fX hn (ihx x' hx hok.1 hw hfn e3)
            · exact fY hn (bad (ihy y' hy hok.2 hw hfn e3))
          | false =>
            rw [hny] at e2
            have e3 : cndR (Nat.beq (t.g fr l).n 33) ((exC cx x' en (endR cx 0)).f fr l h fun e fr h => cndR (Nat.beq e 0) ((kn en0).f fr [] h k) (k e fr h)) (cndR (Nat.beq (t.g fr l).n 1) ((exC cx y' en (endR cx 0)).f fr l h fun e fr h => cndR (Nat.beq e 0) ((kn en0).f fr [] h k) (k e fr h)) none) = some r := e2
            have fin : ∀ {c : Code}, (∃ e fr' h', cndR (Nat.beq e 0) ((kn en0).f fr' [] h' k) (k e fr' h') = some r ∧ HLe h.fl h h' ∧ Semc P cx nt c en fr l h en0 fr' [] h' (fun e' => if e = 0 then e' = .normal else ExR e e')) → Fwd P cx nt c en fr l h k r kn := fun {c} hh => by
              obtain ⟨e, fr', h', g1, g2, g3⟩ := hh
              rcases cndR_some g1 with ⟨t0, g4⟩ | ⟨t0, g4⟩
              · have t0 := beqT t0
                subst t0
                exact .inl ⟨en0, fr', [], h', g4, Wf.zero cx, g2, by simpa using g3⟩
              · have t0 := beqF t0
                exact .inr ⟨e, fr', h', t0, g4, g2, by simpa [t0] using g3⟩
            rcases cndR_some e3 with ⟨h1, h2⟩ | ⟨_, h2⟩
            · exact fX (beqT h1) (fin (fwd_end hG (ihx x' hx hok.1 hw hfn h2)))
            · obtain ⟨h1, h2⟩ := cndR_t h2
              exact fY (beqT h1) (fin (fwd_end hG (ihy y' hy hok.2 hw hfn h2)))
      · cases hs
    · cases hs
  | block id c ih =>
    intro sc hs hok en fr l h k r kn hw hfn e
    simp only [stripCode] at hs
    split at hs
    · rename_i c' hc
      cases hs
      simp only [okC] at hok
      have e1 : (exC cx c' en (endR cx 0)).f fr l h (fun e fr h => cndR (Nat.beq e 0) ((kn en0).f fr [] h k) (cndR (Nat.beq e (Nat.add id 2)) ((kn en0).f fr [] h k) (k e fr h))) = some r := e
      obtain ⟨e0, fr', h', g1, g2, g3⟩ := fwd_end hG (ih c' hc hok hw hfn e1)
      rcases cndR_some g1 with ⟨t0, g4⟩ | ⟨t0, g4⟩
      · have t0 := beqT t0
        subst t0
        refine .inl ⟨en0, fr', [], h', g4, Wf.zero cx, g2, fun hfa B a w hBf hBh hBn hA => wp_block (Code.wp_mono (fun ex a' w' hh => ?_) (g3 hfa B a w hBf hBh hBn hA))⟩
        obtain ⟨hR, hA'⟩ := hh
        simp only [if_true] at hR
        subst hR
        exact ⟨rfl, hA'⟩
      · have t0 := beqF t0
        rcases cndR_some g4 with ⟨t1, g5⟩ | ⟨t1, g5⟩
        · have t1 : e0 = id + 2 := beqT t1
          refine .inl ⟨en0, fr', [], h', g5, Wf.zero cx, g2, fun hfa B a w hBf hBh hBn hA => wp_block (Code.wp_mono (fun ex a' w' hh => ?_) (g3 hfa B a w hBf hBh hBn hA))⟩
          obtain ⟨hR, hA'⟩ := hh
          rw [if_neg t0] at hR
          rcases hR with ⟨h5, _⟩ | ⟨id', h5, rfl⟩
          · omega
          · have : id' = id := by omega
            subst this
            simp only [Exit.inBlock, if_true]
            exact ⟨trivial, hA'⟩
        · have t1 : e0 ≠ id + 2 := beqF t1
          refine .inr ⟨e0, fr', h', t0, g5, g2, fun hfa B a w hBf hBh hBn hA => wp_block (Code.wp_mono (fun ex a' w' hh => ?_) (g3 hfa B a w hBf hBh hBn hA))⟩
          obtain ⟨hR, hA'⟩ := hh
          rw [if_neg t0] at hR
          rcases hR with ⟨h5, rfl⟩ | ⟨id', h5, rfl⟩
          · exact ⟨.inl ⟨h5, rfl⟩, hA'⟩
          · simp only [Exit.inBlock]
            rw [if_neg (by omega)]
            exact ⟨.inr ⟨id', h5, rfl⟩, hA'⟩
    · cases hs
  | loop c ih =>
    intro sc hs hok en fr l h k r kn hw hfn e
    simp only [stripCode] at hs
    split at hs
    · rename_i c' hc
      cases hs
      simp only [okC] at hok
      have e1 : (endR cx 0 en).f fr l h (fun _ fr h => (loopB (exC cx c' en0 (endR cx 0)) cx.fu).f fr [] h k) = some r := e
      obtain ⟨fr1, e2, hle⟩ := endR_some hG hw e1
      generalize cx.fu = n at e2
      obtain ⟨e0, fr', h', g0, g1, g2, g3⟩ := loopB_ok (P := P) (cx := cx) (nt := nt) (c := c) (f := exC cx c' en0 (endR cx 0)) (fun hfn e => fwd_end hG (ih c' hc hok (Wf.zero cx) hfn e)) n hfn e2
      refine .inr ⟨e0, fr', h', g0, g1, g2, fun hfa B a w hBf hBh hBn hA => ?_⟩
      have h4 := g3 hfa B a w hBf hBh hBn (hA.le hle)
      exact wp_loop_rounds (Q := fun e' a' w' => ExR e0 e' ∧ At cx B en0 fr' [] h' a' w') n h4
    · cases hs
  | exit id =>
    intro sc hs _ en fr l h k r kn hw hfn e
    cases hs
    obtain ⟨fr1, e2, hle⟩ := endR_some hG hw e
    exact .inr ⟨id + 2, fr1, h, by omega, e2, .refl _ _, fun _ B a w _ _ _ hA => wp_exit ⟨.inr ⟨id, rfl, rfl⟩, hA.le hle⟩⟩
  | ret =>
    intro sc hs _ en fr l h k r kn hw hfn e
    cases hs
    obtain ⟨fr1, e2, hle⟩ := endR_some hG hw e
    exact .inr ⟨1, fr1, h, by omega, e2, .refl _ _, fun _ B a w _ _ _ hA => wp_ret ⟨.inl ⟨rfl, rfl⟩, hA.le hle⟩⟩
  | _ => intro sc hs; simp [stripCode] at hs
end
end
end Go.M
set_option maxHeartbeats 1000000
namespace Go.M
open Go
open Go.Eng (SOp SOper SCode stripOper stripOps stripCode)
noncomputable section
variable [Ctxt]
theorem slot8 (a b c d e f g i : X) (j : Nat) (h : j < 64) : slotX (⟨⟨⟨a, b, c, d⟩, ⟨e, f, g, i⟩, f4 xU, f4 xU⟩, f4 (f4 xU), f4 (f4 xU), f4 (f4 xU)⟩ : T3) j = [a, b, c, d, e, f, g, i].getD j xU := by
  match j, h with
  | 0, _ => rfl
  | 1, _ => rfl
  | 2, _ => rfl
  | 3, _ => rfl
  | 4, _ => rfl
  | 5, _ => rfl
  | 6, _ => rfl
  | 7, _ => rfl
  | 8, _ => rfl
  | 9, _ => rfl
  | 10, _ => rfl
  | 11, _ => rfl
  | 12, _ => rfl
  | 13, _ => rfl
  | 14, _ => rfl
  | 15, _ => rfl
  | 16, _ => rfl
  | 17, _ => rfl
  | 18, _ => rfl
  | 19, _ => rfl
  | 20, _ => rfl
  | 21, _ => rfl
  | 22, _ => rfl
  | 23, _ => rfl
  | 24, _ => rfl
  | 25, _ => rfl
  | 26, _ => rfl
  | 27, _ => rfl
  | 28, _ => rfl
  | 29, _ => rfl
  | 30, _ => rfl
  | 31, _ => rfl
  | 32, _ => rfl
  | 33, _ => rfl
  | 34, _ => rfl
  | 35, _ => rfl
  | 36, _ => rfl
  | 37, _ => rfl
  | 38, _ => rfl
  | 39, _ => rfl
  | 40, _ => rfl
  | 41, _ => rfl
  | 42, _ => rfl
  | 43, _ => rfl
  | 44, _ => rfl
  | 45, _ => rfl
  | 46, _ => rfl
  | 47, _ => rfl
  | 48, _ => rfl
  | 49, _ => rfl
  | 50, _ => rfl
  | 51, _ => rfl
  | 52, _ => rfl
  | 53, _ => rfl
  | 54, _ => rfl
  | 55, _ => rfl
  | 56, _ => rfl
  | 57, _ => rfl
  | 58, _ => rfl
  | 59, _ => rfl
  | 60, _ => rfl
  | 61, _ => rfl
  | 62, _ => rfl
  | 63, _ => rfl
  | n + 64, h => exact absurd h (by omega)
theorem nthA_get : ∀ (i : Nat) (xs : List X), (nthA i).g xs = xs.getD i xBad
  | 0, [] => rfl
  | 0, x :: xs => rfl
  | i + 1, [] => rfl
  | i + 1, x :: xs => nthA_get i xs
theorem g1_eq (n i : Nat) (xs : List X) : g1 n i xs = if i < n then xs.getD i xBad else xU := by
  unfold g1
  rw [cnd_if, nthA_get]
  by_cases h : i < n
  · rw [if_pos h, if_pos (by simpa [Nat.blt_eq] using h)]
  · rw [if_neg h, if_neg (by simpa [Nat.blt_eq] using h)]
theorem ini_slot {n : Nat} (hn : n ≤ 8) (xs : List X) {j : Nat} (hj : j < 64) : slotX ((iniT n).g xs) j = if j < n then xs.getD j xBad else xU := by
  unfold iniT
  rw [cnd_if, cnd_if]
  have big : ∀ m, 8 ≤ m → (fun (a b c d e f g i : X) => [a, b, c, d, e, f, g, i].getD m xU) = fun _ _ _ _ _ _ _ _ => xU := fun m hm => by
    funext a b c d e f g i
    rw [List.getD_eq_getElem?_getD, List.getElem?_eq_none (by simpa using hm)]; rfl
  by_cases h4 : n ≤ 4
  · rw [if_pos (by simpa [Nat.ble_eq] using h4)]
    have := slot8 (g1 n 0 xs) (g1 n 1 xs) (g1 n 2 xs) (g1 n 3 xs) xU xU xU xU j hj
    refine Eq.trans this ?_
    match j with
    | 0 => exact g1_eq n 0 xs
    | 1 => exact g1_eq n 1 xs
    | 2 => exact g1_eq n 2 xs
    | 3 => exact g1_eq n 3 xs
    | 4 => rw [if_neg (by omega)]; rfl
    | 5 => rw [if_neg (by omega)]; rfl
    | 6 => rw [if_neg (by omega)]; rfl
    | 7 => rw [if_neg (by omega)]; rfl
    | m + 8 => rw [if_neg (by omega)]; exact congrFun (congrFun (congrFun (congrFun (congrFun (congrFun (congrFun (congrFun (big (m + 8) (by omega)) _) _) _) _) _) _) _) _
  · rw [if_neg (by simpa [Nat.ble_eq] using h4), if_pos (by simpa [Nat.ble_eq] using hn)]
    have := slot8 (g1 n 0 xs) (g1 n 1 xs) (g1 n 2 xs) (g1 n 3 xs) (g1 n 4 xs) (g1 n 5 xs) (g1 n 6 xs) (g1 n 7 xs) j hj
    refine Eq.trans this ?_
    match j with
    | 0 => exact g1_eq n 0 xs
    | 1 => exact g1_eq n 1 xs
    | 2 => exact g1_eq n 2 xs
    | 3 => exact g1_eq n 3 xs
    | 4 => exact g1_eq n 4 xs
    | 5 => exact g1_eq n 5 xs
    | 6 => exact g1_eq n 6 xs
    | 7 => exact g1_eq n 7 xs
    | m + 8 => rw [if_neg (by omega)]; exact congrFun (congrFun (congrFun (congrFun (congrFun (congrFun (congrFun (congrFun (big (m + 8) (by omega)) _) _) _) _) _) _) _) _
theorem okG_get : ∀ {n j : Nat} {G : List Nat}, okG n j G = true → ∀ i, i < n → G[i]? = some (j + i)
  | 0, j, G, _, i, hi => absurd hi (Nat.not_lt_zero _)
  | n + 1, j, [], h, i, hi => by cases h
  | n + 1, j, g :: G, h, i, hi => by
    simp only [okG, Bool.and_eq_true] at h
    cases i with
    | zero => simp [beqT h.1]
    | succ i =>
      have := okG_get h.2 i (by omega)
      rw [List.getElem?_cons_succ, this]; congr 1; omega
theorem nodup_ix : ∀ {G : List Nat}, nodupB G = true → ∀ {i k : Nat}, G[i]? = some k → ix G k = some i
  | [], _, i, k, h => by simp at h
  | g :: G, hn, i, k, h => by
    simp only [nodupB, Bool.and_eq_true, Bool.not_eq_true'] at hn
    show cnd (Nat.beq g k) (some 0) (@Option.rec Nat (fun _ => Option Nat) none (fun i => some (Nat.succ i)) (ix G k)) = some i
    rw [cnd_if, beq_dec]
    cases i with
    | zero => simp at h; subst h; simp
    | succ i =>
      have h' : G[i]? = some k := by simpa using h
      have hne : g ≠ k := fun e => by
        subst e
        have : mem G g = true := (mem_iff G g).2 (List.mem_iff_getElem?.2 ⟨i, h'⟩)
        rw [hn.1] at this; cases this
      simp only [hne, decide_false, Bool.false_eq_true, if_false]
      rw [nodup_ix hn.2 h']
def resOf (P : Program) : List ResultVar → Option (List SRes)
  | [] => some []
  | .tmp k :: l => match resOf P l with
    | some r => some (.tmp k :: r)
    | none => none
  | .cell k ty :: l => match Go.Eng.aggP P ty, Go.Eng.sizeP P ty, resOf P l with
    | some ag, some sz, some r => some (.cell k ag sz :: r)
    | _, _, _ => none
def resF (tmps : Array Value) : ResultVar → Sem Value
  | .tmp t => pure (tmps.getD t undef)
  | .cell a t => do loadVar t (← asAddr (tmps.getD a undef))
section
variable {P : Program} {cx : Cx}
theorem results_eq {fn : Func} (tmps : Array Value) (w : World) {l : List ResultVar} (hl : fn.results.toList = l) {vs : List Value} (h1 : vs.length = l.length) (h3 : l.length ≤ 5)
    (hv : ∀ (i : Nat) (x : ResultVar) (v : Value), l[i]? = some x → vs[i]? = some v → (resF tmps x).run P w = .ok v w) :
    (results fn tmps).run P w = .ok (if h : vs.length = 1 then vs[0] else .tuple vs.toArray) w := by
  have he : fn.results = l.toArray := by rw [← hl]
  have e0 : results fn tmps = (do let vs ← l.toArray.mapM (resF tmps); pure (if h : vs.size = 1 then vs[0] else .tuple vs)) := by
    rw [← he]
    unfold results
    rfl
  rw [e0]
  clear he e0
  subst hl
  revert hv h1 h3
  generalize fn.results.toList = l
  intro h1 h3 hv
  match l, vs, h1, hv with
  | [], [], _, _ => simp
  | [x], [v], _, hv =>
    have := (hv 0 x v rfl rfl)
    simp [this]
  | [x, y], [v, u], _, hv =>
    have e1 := (hv 0 x v rfl rfl)
    have e2 := (hv 1 y u rfl rfl)
    simp [e1, e2]
  | [x, y, z], [v, u, q], _, hv =>
    have e1 := (hv 0 x v rfl rfl)
    have e2 := (hv 1 y u rfl rfl)
    have e3 := (hv 2 z q rfl rfl)
    simp [e1, e2, e3]
  | [x, y, z, x'], [v, u, q, v'], _, hv =>
    have e1 := (hv 0 x v rfl rfl)
    have e2 := (hv 1 y u rfl rfl)
    have e3 := (hv 2 z q rfl rfl)
    have e4 := (hv 3 x' v' rfl rfl)
    simp [e1, e2, e3, e4]
  | [x, y, z, x', y'], [v, u, q, v', u'], _, hv =>
    have e1 := (hv 0 x v rfl rfl)
    have e2 := (hv 1 y u rfl rfl)
    have e3 := (hv 2 z q rfl rfl)
    have e4 := (hv 3 x' v' rfl rfl)
    have e5 := (hv 4 y' u' rfl rfl)
    simp [e1, e2, e3, e4, e5]
  | _ :: _ :: _ :: _ :: _ :: _ :: _, _, _, _ => simp at h3
theorem run_lvA {ty : TypeId} {sz g off : Nat} {u : Value} {w : World} {vs : List Value} (ha : Go.Eng.aggP P ty = some true) (hs : Go.Eng.sizeP P ty = some sz) (hx : u = .pointer (some ⟨g, off, none⟩))
    (hl : vs.length = sz) (hc : ∀ j v, vs[j]? = some v → w.cell? ⟨g, off + j, none⟩ = some v) : (do loadVar ty (← asAddr u) : Sem Value).run P w = .ok (.agg vs.toArray) w := by
  have hL := run_loadCells_list (P := P) w ⟨g, off, none⟩ vs (fun j v hj => by
    rw [add_at]; exact hc j v hj)
  subst hl; subst hx
  simp only [asAddr, loadVar, Sem.run_bind, Go.Eng.run_isAgg ha, Go.Eng.run_sizeP hs, Result.andThen_ok, if_true, hL, Sem.run_pure]
theorem run_lv1 {ty : TypeId} {g off : Nat} {u : Value} {w : World} {v : Value} (ha : Go.Eng.aggP P ty = some false) (hx : u = .pointer (some ⟨g, off, none⟩))
    (hc : w.cell? ⟨g, off, none⟩ = some v) : (do loadVar ty (← asAddr u) : Sem Value).run P w = .ok v w := by
  subst hx
  simp [asAddr, loadVar, Go.Eng.run_isAgg ha, hc]
theorem resB_some {fr : FX} {h : Hp} : ∀ (lr : List ResultVar) {res : List SRes} {kk : List X → R} {r}, resOf P lr = some res → (resB cx res).f fr h kk = some r → ∃ ys, kk ys = some r ∧
    ∀ (B : Bs) V γ a w, SR B V h w a γ (sta cx en0 fr []) → ∃ vs : List Value, vs.length = lr.length ∧ denL V ys vs ∧ ∀ (i : Nat) (x : ResultVar) (v : Value), lr[i]? = some x → vs[i]? = some v → (resF a.tmps x).run P w = .ok v w
  | [], res, kk, r, hr, e => by
    simp only [resOf, Option.some.injEq] at hr
    subst hr
    exact ⟨[], e, fun B V γ a w _ => ⟨[], rfl, denL_nil.2 rfl, fun i x v h => by simp at h⟩⟩
  | .tmp t :: lr, res, kk, r, hr, e => by
    simp only [resOf] at hr
    split at hr
    · rename_i res' hr'
      cases hr
      cases hpv : mem cx.PV t with
      | true =>
        have e1 : (@Option.rec Nat (fun _ => ResB) ⟨fun _ _ _ => none⟩ (fun j => ⟨fun fr h k => opn ((tr3.get j).g fr) fun a m o => (resB cx res').f fr h fun xs => k (⟨a, m, o⟩ :: xs)⟩) (cnd (mem cx.PV t) none (ix cx.G t)) : ResB).f fr h kk = some r := e
        rw [hpv] at e1; cases e1
      | false =>
        have e1 : (@Option.rec Nat (fun _ => ResB) ⟨fun _ _ _ => none⟩ (fun j => ⟨fun fr h k => opn ((tr3.get j).g fr) fun a m o => (resB cx res').f fr h fun xs => k (⟨a, m, o⟩ :: xs)⟩) (cnd (mem cx.PV t) none (ix cx.G t)) : ResB).f fr h kk = some r := e
        rw [hpv] at e1
        cases hj : ix cx.G t with
        | none => rw [hj] at e1; cases e1
        | some j =>
          rw [hj] at e1
          have e2 : opn (slotX fr j) (fun a m o => (resB cx res').f fr h fun xs => kk (⟨a, m, o⟩ :: xs)) = some r := e1
          rw [opn_eq] at e2
          obtain ⟨ys, e3, hy⟩ := resB_some lr hr' e2
          refine ⟨slotX fr j :: ys, by cases hx : slotX fr j; rw [hx] at e3; exact e3, fun B V γ a w hS => ?_⟩
          obtain ⟨vs, h1, h2, h3⟩ := hy B V γ a w hS
          have ht : (sta cx en0 fr []).T t = some (.val (slotX fr j)) := by
            show staT cx en0 fr [] t = _
            unfold staT
            show (if mem cx.PV t = true then _ else match ix cx.G t with
              | some j => some (SV.val (slotX fr j))
              | none => none) = _
            rw [hpv, hj]; rfl
          have hd : den V (slotX fr j) (a.eval (.tmp t)) := hS.tm t _ ht
          refine ⟨a.eval (.tmp t) :: vs, by simp [h1], denL_cons.2 ⟨_, _, rfl, hd, h2⟩, fun i x v hi hv => ?_⟩
          cases i with
          | zero =>
            simp at hi hv
            subst hi; subst hv
            show (pure (a.tmps.getD t undef) : Sem Value).run P w = _
            rw [Sem.run_pure]; rfl
          | succ i => exact h3 i x v (by simpa using hi) (by simpa using hv)
    · cases hr
  | .cell t ty :: lr, res, kk, r, hr, e => by
    simp only [resOf] at hr
    split at hr
    · rename_i ag sz res' ha hs hr'
      cases hr
      have e1 : (@Option.rec Nat (fun _ => ResB) ⟨fun _ _ _ => none⟩ (fun j => cnd (mem cx.PV t) ⟨fun fr h k => frc ((tr3.get j).g fr).n fun m => cndR (Nat.beq m 14) none (xLoadC ag 0 sz ((tr3.get j).g fr) h fun x _ => (resB cx res').f fr h fun xs => k (x :: xs))⟩ ⟨fun _ _ _ => none⟩) (ix cx.G t) : ResB).f fr h kk = some r := e
      cases hj : ix cx.G t with
      | none => rw [hj] at e1; cases e1
      | some j =>
        rw [hj] at e1
        cases hpv : mem cx.PV t with
        | false =>
          have e2 : (cnd (mem cx.PV t) (⟨fun fr h k => frc ((tr3.get j).g fr).n fun m => cndR (Nat.beq m 14) none (xLoadC ag 0 sz ((tr3.get j).g fr) h fun x _ => (resB cx res').f fr h fun xs => k (x :: xs))⟩ : ResB) ⟨fun _ _ _ => none⟩).f fr h kk = some r := e1
          rw [hpv] at e2; cases e2
        | true =>
          have e2 : (cnd (mem cx.PV t) (⟨fun fr h k => frc ((tr3.get j).g fr).n fun m => cndR (Nat.beq m 14) none (xLoadC ag 0 sz ((tr3.get j).g fr) h fun x _ => (resB cx res').f fr h fun xs => k (x :: xs))⟩ : ResB) ⟨fun _ _ _ => none⟩).f fr h kk = some r := e1
          rw [hpv] at e2
          have e3 : cndR (Nat.beq (slotX fr j).n 14) none (xLoadC ag 0 sz (slotX fr j) h fun x _ => (resB cx res').f fr h fun xs => kk (x :: xs)) = some r := e2
          rcases cndR_some e3 with ⟨_, e4⟩ | ⟨t14, e4⟩
          · cases e4
          · have h14 := beqF t14
            obtain ⟨y, e5, hsem⟩ := xLoadC_some e4
            obtain ⟨ys, e6, hy⟩ := resB_some lr hr' e5
            refine ⟨y :: ys, e6, fun B V γ a w hS => ?_⟩
            obtain ⟨vs, h1, h2, h3⟩ := hy B V γ a w hS
            have hC : (sta cx en0 fr []).C t = some (slotX fr j) := by
              show staC cx en0 fr [] t = _
              unfold staC
              show (if mem cx.PV t = true then match ix cx.G t with
                | some j => if (slotX fr j).n = 14 then none else some (slotX fr j)
                | none => none
                else none) = _
              rw [hpv, hj]; simp [h14]
            have hT : (sta cx en0 fr []).T t = some (.ptr t 0 true) := by
              show staT cx en0 fr [] t = _
              unfold staT
              have hC' : staC cx en0 fr [] t = some (slotX fr j) := hC
              show (if mem cx.PV t = true then (match staC cx en0 fr [] t with
                | some _ => some (SV.ptr t 0 true)
                | none => none) else _) = _
              rw [hpv, hC']; rfl
            have hp : a.tmps.getD t undef = .pointer (some ⟨γ t, 0, none⟩) := hS.tm t _ hT rfl
            obtain ⟨_, ⟨cells, ety, c1, c2⟩, _⟩ := hS.vr t _ hC
            have hh := hsem V cells c2
            have fin : ∀ v, den V y v → (resF a.tmps (.cell t ty)).run P w = .ok v w → ∃ vs : List Value, vs.length = (ResultVar.cell t ty :: lr).length ∧ denL V (y :: ys) vs ∧ ∀ (i : Nat) (x : ResultVar) (v : Value), (ResultVar.cell t ty :: lr)[i]? = some x → vs[i]? = some v → (resF a.tmps x).run P w = .ok v w := fun v hd hrun => by
              refine ⟨v :: vs, by simp [h1], denL_cons.2 ⟨_, _, rfl, hd, h2⟩, fun i x u hi hu => ?_⟩
              cases i with
              | zero =>
                simp at hi hu
                subst hi; subst hu; exact hrun
              | succ i => exact h3 i x u (by simpa using hi) (by simpa using hu)
            cases ag with
            | true =>
              simp only [if_true] at hh
              obtain ⟨us, q1, q2, q3⟩ := hh
              exact fin _ q1 (run_lvA ha hs hp q2 fun j v hj => by rw [Go.Eng.cell_heap c1]; exact q3 j v hj)
            | false =>
              simp only [Bool.false_eq_true, if_false] at hh
              obtain ⟨v, q1, q2⟩ := hh
              exact fin v q1 (run_lv1 ha hp (by rw [Go.Eng.cell_heap c1]; exact q2))
    · cases hr
structure FnM (P : Program) (g : FuncId) (F : Fun) : Prop where
  fn : ∃ fn c, P.funcs[g]? = some fn ∧ (fn.name == "runtime.NumGoroutine") = false ∧ fn.body = some c ∧ stripCode P c = some F.sc ∧ resOf P fn.results.toList = some F.res ∧ fn.results.toList.length ≤ 5 ∧ F.na ≤ fn.ntmps ∧ okC fn.ntmps F.PV F.FL F.sc = true
  mixed : P.follows .mixedOrders = true
theorem exF_ok {cl : Nat → FC} {g : FuncId} {F : Fun} (hcl : CallsOk P cl) (hdr : ∀ cx nt, cx.cl = cl → DrawOk P cx nt) (hF : FnM P g F) : FcOk P g (exF cl F) := by
  intro xs h k r hfn e
  unfold exF at e
  cases hok : okF F with
  | false => rw [hok] at e; cases e
  | true =>
    rw [hok] at e
    generalize hcx : (⟨cl, F.G, F.PV, F.FL, fuelN⟩ : Cx) = cx at e
    have hc1 : cx.cl = cl := by subst hcx; rfl
    have hc2 : cx.G = F.G := by subst hcx; rfl
    have hc3 : cx.PV = F.PV := by subst hcx; rfl
    have hc4 : cx.FL = F.FL := by subst hcx; rfl
    have e0 : cndR (Nat.beq (lenL xs) F.na) ((exC cx F.sc en0 (endR cx 0)).f ((iniT F.na).g xs) [] h fun e fr h => cndR (Nat.ble e 1) ((resB cx F.res).f fr h fun ys => rcL ys (k ⟨3, [], oZ⟩ h) fun y t => rcL t (k y h) fun _ _ => k ⟨3, ys, oZ⟩ h) none) none = some r := e
    obtain ⟨hlen, e1⟩ := cndR_t e0
    rw [lenL_eq] at hlen
    have hlen : xs.length = F.na := beqT hlen
    simp only [okF, Bool.and_eq_true, List.all_eq_true] at hok
    obtain ⟨ho1, ho2, ho3, ho4, ho5⟩ := hok
    have hG64 : cx.G.length ≤ 64 := by rw [hc2]; exact bleT ho3
    have hna : F.na ≤ 8 := bleT ho4
    obtain ⟨⟨fn, c, q1, q2, q3, q4, q5, q6, q7, q8⟩, hmix⟩ := hF
    have hfw := exC_ok (nt := fn.ntmps) (hc1 ▸ hcl) (hdr cx fn.ntmps hc1) hmix hG64 c F.sc q4 (by rw [hc3, hc4]; exact q8) (Wf.zero cx) hfn e1
    obtain ⟨e', fr', h', g1, g2, g3⟩ := fwd_end hG64 hfw
    obtain ⟨hle1, g4⟩ := cndR_t g1
    have hle1 : e' ≤ 1 := bleT hle1
    obtain ⟨ys, g5, hys⟩ := resB_some fn.results.toList q5 g4
    have hans : ∃ x, k x h' = some r ∧ ∀ V (vs : List Value), denL V ys vs → den V x (if h : vs.length = 1 then vs[0] else .tuple vs.toArray) := by
      match ys, g5 with
      | [], g5 =>
        refine ⟨_, g5, fun V vs hv => ?_⟩
        rw [denL_nil.1 hv, dif_neg (by simp)]
        exact (den3 (x := ⟨3, [], oZ⟩) rfl).2 ⟨[], rfl, denL_nil.2 rfl⟩
      | [y], g5 =>
        refine ⟨y, g5, fun V vs hv => ?_⟩
        obtain ⟨v, r', rfl, h1, h2⟩ := denL_cons.1 hv
        have := denL_nil.1 h2
        subst this
        simpa using h1
      | y :: y2 :: ys', g5 =>
        refine ⟨_, g5, fun V vs hv => ?_⟩
        have hl := denL_length hv
        rw [dif_neg (by rw [hl]; simp)]
        exact (den3 (x := ⟨3, y :: y2 :: ys', oZ⟩) rfl).2 ⟨vs, rfl, hv⟩
    obtain ⟨x, g6, hx⟩ := hans
    refine ⟨x, h', g6, g2, fun hfa w0 V w vals hm hv => ⟨⟨fn, q1, q2, by rw [q3]; rfl⟩, ?_⟩⟩
    have hvl : vals.size = F.na := by have := denL_length hv; simp at this; omega
    let B : Bs := ⟨w0, h.fl, V, h, w, fn.ntmps⟩
    have hA : At cx B en0 ((iniT F.na).g xs) [] h { tmps := vals ++ Array.replicate (fn.ntmps - vals.size) undef, defers := [] } w := by
      have hstC : ∀ p, staC cx en0 ((iniT F.na).g xs) [] p = none := fun p => by
        show (if mem cx.PV p = true then match ix cx.G p with
          | some j => if (slotX ((iniT F.na).g xs) j).n = 14 then none else some (slotX ((iniT F.na).g xs) j)
          | none => none
          else none) = none
        split
        · rename_i hpv
          cases hj : ix cx.G p with
          | none => rfl
          | some j =>
            have hgj := ix_get hj
            have hj64 : j < 64 := Nat.lt_of_lt_of_le (List.getElem?_eq_some_iff.1 hgj).1 hG64
            have hpna : F.na ≤ p := bleT (ho5 p ((mem_iff F.PV p).1 (by rw [← hc3]; exact hpv)))
            have hjn : ¬ j < F.na := fun hlt => by
              have := okG_get ho1 j hlt
              rw [hc2, this] at hgj
              simp only [Option.some.injEq] at hgj
              omega
            simp only [ini_slot hna xs hj64, if_neg hjn, if_true]
        · rfl
      refine ⟨V, fun _ => 0, hm, .refl .., fun k' sv hk => ?_, fun p y hp => ?_, fun p q y z hp => ?_, rfl, ?_, hm.sz⟩
      · have hk' : (if mem cx.PV k' = true then (match staC cx en0 ((iniT F.na).g xs) [] k' with
          | some _ => some (SV.ptr k' 0 true)
          | none => none) else match ix cx.G k' with
            | some j => some (SV.val (slotX ((iniT F.na).g xs) j))
            | none => none) = some sv := hk
        rw [hstC] at hk'
        split at hk'
        · cases hk'
        · cases hj : ix cx.G k' with
          | none => rw [hj] at hk'; cases hk'
          | some j =>
            rw [hj] at hk'
            simp only [Option.some.injEq] at hk'
            subst hk'
            have hgj := ix_get hj
            have hj64 : j < 64 := Nat.lt_of_lt_of_le (List.getElem?_eq_some_iff.1 hgj).1 hG64
            show den V (slotX ((iniT F.na).g xs) j) ((vals ++ Array.replicate (fn.ntmps - vals.size) undef).getD k' undef)
            rw [ini_slot hna xs hj64]
            by_cases hlt : j < F.na
            · rw [if_pos hlt]
              have := okG_get ho1 j hlt
              rw [hc2, this] at hgj
              simp only [Option.some.injEq, Nat.zero_add] at hgj
              subst hgj
              obtain ⟨v, h1, h2⟩ := denL_get hv (i := j) (x := xs.getD j xBad) (by rw [List.getD_eq_getElem?_getD, List.getElem?_eq_getElem (by omega)]; rfl)
              have hvj : vals[j]? = some v := by simpa using h1
              rw [Array.getD_eq_getD_getElem?, Array.getElem?_append, if_pos (by omega), hvj]
              exact h2
            · rw [if_neg hlt]
              have hkn : ¬ k' < F.na := fun hk => by
                have h1 := okG_get ho1 k' hk
                rw [Nat.zero_add] at h1
                have h2 := nodup_ix ho2 h1
                rw [← hc2, hj] at h2
                simp only [Option.some.injEq] at h2
                omega
              have : (vals ++ Array.replicate (fn.ntmps - vals.size) undef).getD k' undef = undef := by
                rw [Array.getD_eq_getD_getElem?, Array.getElem?_append, if_neg (by omega)]
                rcases Nat.lt_or_ge (k' - vals.size) (fn.ntmps - vals.size) with hh | hh
                · simp [hh]
                · rw [Array.getElem?_eq_none (by simpa using hh)]; rfl
              rw [this]
              exact den_xU
      · have hp' : staC cx en0 ((iniT F.na).g xs) [] p = some y := hp
        rw [hstC] at hp'; cases hp'
      · have hp' : staC cx en0 ((iniT F.na).g xs) [] p = some y := hp
        rw [hstC] at hp'; cases hp'
      · show (vals ++ Array.replicate (fn.ntmps - vals.size) undef).size = fn.ntmps
        simp only [Array.size_append, Array.size_replicate]
        omega
    have hwp := g3 hfa B _ w rfl (.refl _ _) rfl hA
    refine calls_of_wp q1 q3 (Code.wp_mono (fun ex a' w' hh => ?_) hwp)
    obtain ⟨hR, V', γ', hS⟩ := hh
    obtain ⟨vs, z1, z2, z3⟩ := hys B V' γ' a' w' hS
    have hfin : a'.defers = [] ∧ ∃ v, (results fn a'.tmps).run P w' = .ok v w' ∧ ∃ v_1 V'', Ending.returned v = Ending.returned v_1 ∧ MR w0 V'' h' w' ∧ den V'' x v_1 ∧ Stp h.fl V h w V'' w' :=
      ⟨hS.df, _, results_eq a'.tmps w' rfl z1 q6 z3, _, V', rfl, hS.mr, hx V' vs z2, hS.stp⟩
    by_cases h0 : e' = 0
    · rw [if_pos h0] at hR
      subst hR
      exact hfin
    · rw [if_neg h0] at hR
      rcases hR with ⟨_, rfl⟩ | ⟨id, h5, _⟩
      · exact hfin
      · omega
theorem clAt_ok {code : Nat → Option Fun} (hdr : ∀ cx nt, CallsOk P cx.cl → DrawOk P cx nt) (hc : ∀ g F, code g = some F → FnM P g F) : ∀ l, CallsOk P (clAt code l)
  | 0 => fun g xs h k r _ e => by cases e
  | l + 1 => fun g => by
    have ih := clAt_ok hdr hc l
    show FcOk P g (@Option.rec Fun (fun _ => FC) fcN (fun F => cnd (lvB F.lev l) (exF (clAt code l) F) (clAt code l g)) (code g))
    cases hg : code g with
    | none => exact fun xs h k r _ e => by cases e
    | some F =>
      show FcOk P g (cnd (lvB F.lev l) (exF (clAt code l) F) (clAt code l g))
      cases lvB F.lev l with
      | true => exact exF_ok ih (fun cx nt hcx => hdr cx nt (hcx ▸ ih)) (hc g F hg)
      | false => exact ih g
end
end
end Go.M
set_option maxHeartbeats 1000000
namespace Go.M
open Go
open Go.Eng (SOp SOper SCode stripOper stripOps stripCode)
noncomputable section
variable [Ctxt]
def FD {β : Type} (u : Nat → Option (Nat × β)) (D : Nat → Bool) (t0 : Nat → Option β) : Nat → Nat → Option β
  | 0, k => t0 k
  | n + 1, k => match D n, u n with
    | true, some (k', v) => if k' = k then some v else FD u D t0 n k
    | _, _ => FD u D t0 n k
def Key {β : Type} (u : Nat → Option (Nat × β)) (i k : Nat) : Prop := ∃ v, u i = some (k, v)
section
variable {β : Type} {u : Nat → Option (Nat × β)} {t0 : Nat → Option β}
theorem FD_succ_key {D : Nat → Bool} {n k : Nat} {v : β} (hd : D n = true) (hu : u n = some (k, v)) : FD u D t0 (n + 1) k = some v := by
  simp only [FD, hd, hu, if_true]
theorem FD_succ_off {D : Nat → Bool} {n k : Nat} (h : D n = true → ¬ Key u n k) : FD u D t0 (n + 1) k = FD u D t0 n k := by
  simp only [FD]
  split
  · rename_i k' v hd hu
    split
    · rename_i e; subst e; exact absurd ⟨v, hu⟩ (h hd)
    · rfl
  · rfl
theorem FD_read {D E : Nat → Bool} {k : Nat} : ∀ {n : Nat}, (∀ i, i < n → Key u i k → D i = E i) → FD u D t0 n k = FD u E t0 n k
  | 0, _ => rfl
  | n + 1, h => by
    have ih := FD_read (n := n) fun i hi => h i (by omega)
    by_cases hk : Key u n k
    · obtain ⟨v, hu⟩ := hk
      have := h n (Nat.lt_succ_self _) ⟨v, hu⟩
      cases hd : D n with
      | true => rw [FD_succ_key hd hu, FD_succ_key (this ▸ hd) hu]
      | false => rw [FD_succ_off (fun e => by rw [hd] at e; cases e), FD_succ_off (fun e => by rw [← this, hd] at e; cases e), ih]
    · rw [FD_succ_off (fun _ => hk), FD_succ_off (fun _ => hk), ih]
theorem FD_cut {j k : Nat} : ∀ {n : Nat}, j ≤ n → FD u (fun i => decide (i < j)) t0 n k = FD u (fun _ => true) t0 j k
  | 0, h => by have : j = 0 := by omega
               subst this; rfl
  | n + 1, h => by
    by_cases e : j = n + 1
    · subst e
      exact FD_read fun i hi _ => by simpa using hi
    · rw [FD_succ_off (fun e' => by simp at e'; omega), FD_cut (by omega)]
theorem FD_insert {D : Nat → Bool} {j k : Nat} (hj : D j = false) : ∀ {n : Nat}, j < n → (∀ i, j < i → i < n → D i = true → Key u i k → ¬ Key u j k) →
    FD u (fun i => D i || i == j) t0 n k = match u j with
      | some (k', v) => if k' = k then some v else FD u D t0 n k
      | none => FD u D t0 n k
  | 0, h, _ => absurd h (Nat.not_lt_zero _)
  | n + 1, h, hd => by
    by_cases e : j = n
    · subst e
      have hsame : FD u (fun i => D i || i == j) t0 j k = FD u D t0 j k := FD_read fun i hi _ => by
        have : (i == j) = false := by simp; omega
        simp [this]
      have hoff : FD u D t0 (j + 1) k = FD u D t0 j k := FD_succ_off (fun e => by rw [hj] at e; cases e)
      rw [hoff]
      cases hu : u j with
      | none =>
        rw [FD_succ_off (fun _ ⟨v, hv⟩ => by rw [hu] at hv; cases hv), hsame]
      | some q =>
        obtain ⟨k', v⟩ := q
        simp only
        split
        · rename_i e; subst e; rw [FD_succ_key (by simp) hu]
        · rename_i e; rw [FD_succ_off (fun _ ⟨v', hv⟩ => by rw [hu] at hv; cases hv; exact e rfl), hsame]
    · have ih := FD_insert hj (n := n) (by omega) fun i h1 h2 => hd i h1 (by omega)
      have hne : (n == j) = false := by simp; omega
      by_cases hk : D n = true ∧ Key u n k
      · obtain ⟨hD, v, hv⟩ := hk
        rw [FD_succ_key (by simp [hD]) hv, FD_succ_key hD hv]
        have hnk := hd n (by omega) (Nat.lt_succ_self _) hD ⟨v, hv⟩
        cases hu : u j with
        | none => rfl
        | some q =>
          obtain ⟨k', v'⟩ := q
          simp only
          rw [if_neg (fun e => hnk ⟨v', by rw [hu, e]⟩)]
      · rw [FD_succ_off (fun h1 h2 => hk ⟨by simpa [hne] using h1, h2⟩), FD_succ_off (fun h1 h2 => hk ⟨h1, h2⟩), ih]
theorem FD_from {D : Nat → Bool} {k : Nat} {v : β} : ∀ {n : Nat}, FD u D t0 n k = some v → t0 k = some v ∨ ∃ i, i < n ∧ D i = true ∧ u i = some (k, v)
  | 0, h => .inl h
  | n + 1, h => by
    by_cases hk : D n = true ∧ Key u n k
    · obtain ⟨hD, v', hv⟩ := hk
      rw [FD_succ_key hD hv] at h
      cases h
      exact .inr ⟨n, Nat.lt_succ_self _, hD, hv⟩
    · rw [FD_succ_off (fun h1 h2 => hk ⟨h1, h2⟩)] at h
      rcases FD_from h with h | ⟨i, h1, h2, h3⟩
      · exact .inl h
      · exact .inr ⟨i, by omega, h2, h3⟩
theorem FD_none {k : Nat} : ∀ {n : Nat}, FD u (fun _ => false) t0 n k = t0 k
  | 0 => rfl
  | n + 1 => by rw [FD_succ_off (fun e => by cases e), FD_none]
end
theorem foldl_bit (acc : List Nat) (i : Nat) : ∀ (af : List Nat) (s : Nat), (af.foldl (fun s e => s ||| (2 ^ e ||| acc.getD e 0)) s).testBit i = true →
    s.testBit i = true ∨ ∃ e ∈ af, e = i ∨ (acc.getD e 0).testBit i = true
  | [], s, h => .inl h
  | e :: af, s, h => by
    simp only [List.foldl_cons] at h
    rcases foldl_bit acc i af _ h with h | ⟨e', he', h⟩
    · simp only [Nat.testBit_or, Bool.or_eq_true, Nat.testBit_two_pow, decide_eq_true_eq] at h
      rcases h with h | h | h
      · exact .inl h
      · exact .inr ⟨e, List.mem_cons_self .., .inl h⟩
      · exact .inr ⟨e, List.mem_cons_self .., .inr h⟩
    · exact .inr ⟨e', List.mem_cons_of_mem _ he', h⟩
def BefOk (as : List (List Nat)) (acc : List Nat) : Prop :=
  ∀ (j m : Nat), acc[j]? = some m → ∀ D : Nat → Bool, (∀ i af, D i = true → as[i]? = some af → ∀ e ∈ af, D e = true) → (∀ af, as[j]? = some af → ∀ e ∈ af, D e = true) →
    ∀ i, m.testBit i = true → D i = true
theorem befGo_ok (as : List (List Nat)) : ∀ (l : List (List Nat)) (acc : List Nat), as = as.take acc.length ++ l → acc.length ≤ as.length → BefOk as acc → BefOk as (befGo acc l)
  | [], acc, _, _, h => h
  | af :: l, acc, he, hl, h => by
    have haf : as[acc.length]? = some af := by
      rw [he, List.getElem?_append_right (by simp; omega)]
      simp [Nat.min_eq_left hl]
    have hlt : acc.length < as.length := (List.getElem?_eq_some_iff.1 haf).1
    refine befGo_ok as l _ ?_ (by simp; omega) ?_
    · have e1 : (acc ++ [af.foldl (fun s e => s ||| (2 ^ e ||| acc.getD e 0)) 0]).length = acc.length + 1 := by simp
      rw [e1, List.take_succ, haf]
      simpa using he
    · intro j m hj D hD hj' i hi
      rw [List.getElem?_append] at hj
      split at hj
      · exact h j m hj D hD hj' i hi
      · rename_i hge
        have hj0 : j - acc.length = 0 := by
          rcases Nat.eq_zero_or_pos (j - acc.length) with e | e
          · exact e
          · rw [List.getElem?_eq_none (by simp; omega)] at hj; cases hj
        rw [hj0] at hj
        simp only [List.getElem?_cons_zero, Option.some.injEq] at hj
        have hje : j = acc.length := by omega
        subst hje
        rw [← hj] at hi
        rcases foldl_bit acc i af 0 hi with h0 | ⟨e, he', h0⟩
        · simp at h0
        · have hDe := hj' af haf e he'
          rcases h0 with rfl | h0
          · exact hDe
          · have hlt : e < acc.length := by
              rcases Nat.lt_or_ge e acc.length with h1 | h1
              · exact h1
              · rw [List.getD_eq_getElem?_getD, List.getElem?_eq_none h1] at h0
                simp at h0
            have hm : acc[e]? = some (acc.getD e 0) := by
              rw [List.getD_eq_getElem?_getD, List.getElem?_eq_getElem hlt]; rfl
            exact h e _ hm D hD (fun af' haf' e' he'' => hD e af' hDe haf' e' he'') i h0
def Closed (sl : List SOper) (D : Nat → Bool) : Prop := ∀ i o, D i = true → sl[i]? = some o → ∀ e ∈ o.after, D e = true
def barB (FL : List Nat) (x : SOper) (r : Rs) : Bool := Nat.beq r.c 3 || (Nat.beq r.c 4 && !(inFL FL x))
structure Free (FL : List Nat) (x y : SOper) (rx ry : Rs) : Prop where
  ap : apartD rx ry = true
  bx : barB FL x rx = true → ry.c = 0 ∨ isMk y.op = true
  by_ : barB FL y ry = true → rx.c = 0
theorem zipIdx_all {α : Type} {l : List α} {p : α × Nat → Bool} (h : l.zipIdx.all p = true) (i : Nat) (x : α) (hx : l[i]? = some x) : p (x, i) = true := by
  rw [List.all_eq_true] at h
  refine h (x, i) (List.mem_iff_getElem?.2 ⟨i, ?_⟩)
  rw [List.getElem?_zipIdx, hx]; simp
theorem okDraw_pairs0 {PV FL : List Nat} {sl : List SOper} (h : okDraw PV FL sl = true) : (∀ (j : Nat) o, sl[j]? = some o → ∀ e ∈ o.after, e < j) ∧
    ∀ (i j : Nat) x y, i < j → sl[i]? = some x → sl[j]? = some y → ((befGo [] (sl.map (·.after))).getD j 0).testBit i = true ∨ Free FL x y (rsOf (aliases PV sl []) PV x) (rsOf (aliases PV sl []) PV y) := by
  unfold okDraw at h
  simp only [Bool.and_eq_true] at h
  obtain ⟨h1, h2, _⟩ := h
  unfold okReg at h1
  unfold floOk at h2
  generalize hrs : sl.map (rsOf (aliases PV sl []) PV) = rs at h1 h2
  have hr : ∀ (i : Nat) x, sl[i]? = some x → rs[i]? = some (rsOf (aliases PV sl []) PV x) := fun i x hx => by rw [← hrs, List.getElem?_map, hx]; rfl
  have hz : ∀ (i : Nat) x, sl[i]? = some x → (sl.zip rs)[i]? = some (x, rsOf (aliases PV sl []) PV x) := fun i x hx => by rw [List.getElem?_zip_eq_some]; exact ⟨hx, hr i x hx⟩
  refine ⟨fun j o ho e he => ?_, fun i j x y hij hx hy => ?_⟩
  · have := zipIdx_all h1 j _ (hz j o ho)
    simp only [Bool.and_eq_true, List.all_eq_true] at this
    have := this.1 e he
    simpa [Nat.blt_eq] using this
  · have g1 := zipIdx_all h1 j _ (hz j y hy)
    simp only [Bool.and_eq_true] at g1
    have g2 := zipIdx_all g1.2 i _ (hr i x hx)
    simp only [Bool.or_eq_true, Bool.not_eq_true', Bool.eq_false_iff] at g2
    by_cases hb : ((befGo [] (sl.map (·.after))).getD j 0).testBit i = true
    · exact .inl hb
    · refine .inr ?_
      have hap2 : apartD (rsOf (aliases PV sl []) PV x) (rsOf (aliases PV sl []) PV y) = true ∧ (apartC (rsOf (aliases PV sl []) PV x) (rsOf (aliases PV sl []) PV y) = true ∨ isMk y.op = true) := by
        rcases g2 with g2 | g2 | g2
        · exact absurd (by simpa [Nat.blt_eq] using hij) g2
        · exact absurd g2 hb
        · simpa [Bool.and_eq_true, Bool.or_eq_true] using g2
      obtain ⟨hap, hac⟩ := hap2
      have flo : ∀ (a b : Nat) (x y : SOper), sl[a]? = some x → sl[b]? = some y → a ≠ b → max a b = j → min a b = i → (rsOf (aliases PV sl []) PV x).c = 4 → inFL FL x = false → (rsOf (aliases PV sl []) PV y).c = 0 ∨ (isMk y.op = true ∧ a < b) := fun a b x y hx hy hab hM hm hc hf => by
        have k1 := zipIdx_all h2 a _ (hz a x hx)
        simp only [Bool.or_eq_true, Bool.not_eq_true'] at k1
        rcases k1 with (k1 | k1) | k1
        · rw [hc] at k1; cases k1
        · rw [hf] at k1; cases k1
        · have k2 := zipIdx_all k1 b _ (hz b y hy)
          simp only [Bool.or_eq_true, Bool.and_eq_true] at k2
          rcases k2 with ((k2 | k2) | k2) | k2
          · exact .inl (beqT k2)
          · exact absurd (beqT k2) hab
          · rw [hM, hm] at k2; exact absurd k2 hb
          · exact .inr ⟨k2.1, by simpa [Nat.blt_eq] using k2.2⟩
      have cls : ∀ (x y : Rs), apartC x y = true → (x.c = 3 → y.c = 0) ∧ (y.c = 3 → x.c = 0) := fun x y ha => by
        unfold apartC at ha
        simp only [Bool.and_eq_true, Bool.or_eq_true] at ha
        have h4 := ha
        refine ⟨fun hx => ?_, fun hy => ?_⟩
        · rcases h4 with h4 | h4 | h4 | h4 | h4
          · rw [beqT h4] at hx; cases hx
          · exact beqT h4
          · rw [hx] at h4; exact absurd h4.1 (by decide)
          · rw [hx] at h4; exact absurd h4.1 (by decide)
          · rw [hx] at h4; exact absurd h4.2 (by decide)
        · rcases h4 with h4 | h4 | h4 | h4 | h4
          · exact beqT h4
          · rw [beqT h4] at hy; cases hy
          · rw [hy] at h4; exact absurd h4.2 (by decide)
          · rw [hy] at h4; exact absurd h4.2 (by decide)
          · rw [hy] at h4; exact absurd h4.1 (by decide)
      have mk2 : ∀ (y : SOper), isMk y.op = true → (rsOf (aliases PV sl []) PV y).c = 2 := fun y hm => by
        cases ho : y.op <;> rw [ho] at hm <;> first | (cases hm; done) | skip
        unfold rsOf; rw [ho]; rfl
      refine ⟨hap, fun hbx => ?_, fun hby => ?_⟩
      · unfold barB at hbx
        simp only [Bool.or_eq_true, Bool.and_eq_true, Bool.not_eq_true'] at hbx
        rcases hbx with hbx | hbx
        · rcases hac with hac | hac
          · exact .inl ((cls _ _ hac).1 (beqT hbx))
          · exact .inr hac
        · exact (flo i j x y hx hy (by omega) (by omega) (by omega) (beqT hbx.1) hbx.2).imp id And.left
      · unfold barB at hby
        simp only [Bool.or_eq_true, Bool.and_eq_true, Bool.not_eq_true'] at hby
        rcases hby with hby | hby
        · rcases hac with hac | hac
          · exact (cls _ _ hac).2 (beqT hby)
          · have := mk2 y hac
            rw [beqT hby] at this; cases this
        · rcases flo j i y x hy hx (by omega) (by omega) (by omega) (beqT hby.1) hby.2 with h | ⟨_, h⟩
          · exact h
          · omega
theorem okDraw_pairs {PV FL : List Nat} {sl : List SOper} (h : okDraw PV FL sl = true) : (∀ (j : Nat) o, sl[j]? = some o → ∀ e ∈ o.after, e < j) ∧
    ∀ (i j : Nat) x y, i < j → sl[i]? = some x → sl[j]? = some y → ((befGo [] (sl.map (·.after))).getD j 0).testBit i = true ∨ Free FL x y (rsOf (aliases PV sl []) PV x) (rsOf (aliases PV sl []) PV y) := okDraw_pairs0 h
theorem newOk_of {PV FL : List Nat} {sl : List SOper} (h : okDraw PV FL sl = true) {D : Nat → Bool} (hD : Closed sl D) {j p : Nat} {o : SOper} (ho : sl[j]? = some o) (hn : isNew o.op = true) (hd : o.dst = some p) (hp : mem PV p = true) (hj : D j = false) :
    ∀ (i : Nat) x, i ≠ j → sl[i]? = some x → vpOf (aliases PV sl []) PV x.op = some p → D i = false := fun i x hij hx hv => by
  have hbef : BefOk (sl.map (·.after)) (befGo [] (sl.map (·.after))) := befGo_ok _ _ [] (by simp) (by simp) (fun j m h => by simp at h)
  have hDc : ∀ (i : Nat) (af : List Nat), D i = true → (sl.map (·.after))[i]? = some af → ∀ e ∈ af, D e = true := fun i af hi haf => by
    rw [List.getElem?_map] at haf
    cases hs : sl[i]? with
    | none => rw [hs] at haf; simp at haf
    | some x => rw [hs] at haf; simp at haf; subst haf; exact hD i x hi hs
  unfold okDraw at h
  simp only [Bool.and_eq_true] at h
  obtain ⟨_, _, h3⟩ := h
  unfold newOk at h3
  have k1 := zipIdx_all h3 j o ho
  simp only [Bool.or_eq_true, Bool.not_eq_true', hn, hd] at k1
  rcases k1 with k1 | k1
  · cases k1
  · rw [hp] at k1
    rcases k1 with k1 | k1
    · cases k1
    · have k2 := zipIdx_all k1 i x hx
      simp only [Bool.or_eq_true, Bool.not_eq_true', Bool.and_eq_true] at k2
      rcases k2 with k2 | k2 | k2
      · exact absurd (beqT k2) hij
      · rw [hv] at k2
        have k2 : Nat.beq p p = false := k2
        rw [Nat.beq_refl] at k2; cases k2
      · cases hDi : D i with
        | false => rfl
        | true =>
          have hb := k2.2
          rcases Nat.lt_or_ge i (befGo [] (sl.map (·.after))).length with h1 | h1
          · have := hbef i _ (by rw [List.getD_eq_getElem?_getD, List.getElem?_eq_getElem h1]; rfl) D hDc (fun af haf => hDc i af hDi haf) j hb
            rw [hj] at this; cases this
          · rw [List.getD_eq_getElem?_getD, List.getElem?_eq_none h1] at hb
            simp at hb
theorem free_of {PV FL : List Nat} {sl : List SOper} (h : okDraw PV FL sl = true) {D : Nat → Bool} (hD : Closed sl D) {j : Nat} {o : SOper} (ho : sl[j]? = some o) (hj : D j = false) (hjr : ∀ e ∈ o.after, D e = true) :
    (∀ i x, i < j → sl[i]? = some x → D i = true ∨ Free FL x o (rsOf (aliases PV sl []) PV x) (rsOf (aliases PV sl []) PV o)) ∧
    ∀ i x, j < i → sl[i]? = some x → D i = true → Free FL o x (rsOf (aliases PV sl []) PV o) (rsOf (aliases PV sl []) PV x) := by
  obtain ⟨_, hp⟩ := okDraw_pairs h
  have hbef : BefOk (sl.map (·.after)) (befGo [] (sl.map (·.after))) := befGo_ok _ _ [] (by simp) (by simp) (fun j m h => by simp at h)
  have hDc : ∀ (i : Nat) (af : List Nat), D i = true → (sl.map (·.after))[i]? = some af → ∀ e ∈ af, D e = true := fun i af hi haf => by
    rw [List.getElem?_map] at haf
    cases hs : sl[i]? with
    | none => rw [hs] at haf; simp at haf
    | some x => rw [hs] at haf; simp at haf; subst haf; exact hD i x hi hs
  have hbit : ∀ (i i' : Nat) (x : SOper), sl[i]? = some x → (∀ e ∈ x.after, D e = true) → ((befGo [] (sl.map (·.after))).getD i 0).testBit i' = true → D i' = true := fun i i' x hx hxe hb => by
    rcases Nat.lt_or_ge i (befGo [] (sl.map (·.after))).length with h1 | h1
    · refine hbef i _ (by rw [List.getD_eq_getElem?_getD, List.getElem?_eq_getElem h1]; rfl) D hDc (fun af haf => ?_) i' hb
      rw [List.getElem?_map, hx] at haf
      simp at haf
      subst haf
      exact hxe
    · rw [List.getD_eq_getElem?_getD, List.getElem?_eq_none h1] at hb
      simp at hb
  refine ⟨fun i x hi hx => ?_, fun i x hi hx hd => ?_⟩
  · rcases hp i j x o hi hx ho with h | h
    · exact .inl (hbit j i o ho hjr h)
    · exact .inr h
  · rcases hp j i o x hi ho hx with h | h
    · have := hbit i j x hx (hD i x hd hx) h
      rw [hj] at this; cases this
    · exact h
end
end Go.M
set_option maxHeartbeats 1000000
namespace Go.M
open Go
open Go.Eng (SOp SOper SCode stripOper stripOps stripCode)
noncomputable section
variable [Ctxt]
def isHp : Kd → Prop
  | .heap _ => True
  | _ => False
abbrev olD (cx : Cx) (sl : List SOper) (so : SOper) : OL := ⟨so.dst, so.op, so.guard, inFL cx.FL so, some (vpOf (aliases cx.PV sl []) cx.PV so.op)⟩
abbrev rsD (cx : Cx) (sl : List SOper) (so : SOper) : Rs := rsOf (aliases cx.PV sl []) cx.PV so
structure Dat (P : Program) (cx : Cx) (ops : Array Oper) (sl : List SOper) (nt : Nat) (kd : Nat → Kd) (sv : Nat → SV) (var : Nat → Option (Nat × X)) (S : Nat → Sta) (H : Nat → Hp) : Prop where
  op : ∀ (j : Nat) so, sl[j]? = some so → ∃ o, ops[j]? = some o ∧ stripOper P ops true o = some so
  okd : ∀ (j : Nat) so, sl[j]? = some so → okD nt cx.PV true so = true
  ok : okDraw cx.PV cx.FL sl = true
  le : ∀ (j : Nat) so, sl[j]? = some so → (S (j + 1)).le ((S j).upd so.dst (sv j) (var j))
  hle : ∀ j, j < sl.length → HLe (kdF (H j) (kd j)) (H j) (H (j + 1))
  fln : ∀ j, j ≤ sl.length → (H j).fl ≤ (H j).n
  fl : ∀ j, j ≤ sl.length → (H j).fl = (H 0).fl
  kdo : ∀ (j : Nat) so, sl[j]? = some so → KdOk cx (H j) (olD cx sl so) (kd j)
  svo : ∀ (j : Nat) so, sl[j]? = some so → SvOk (olD cx sl so) (kd j) (sv j)
  s0 : ∀ k p off c, (S 0).T k = some (.ptr p off c) → k = p
  eff : ∀ (j : Nat) so o, sl[j]? = some so → ops[j]? = some o → EffOk P ops o (looks so) (S j) (H j) (H (j + 1)) (kd j) (sv j) (var j)
  mkr : ∀ (j : Nat) so o, sl[j]? = some so → ops[j]? = some o → isMk so.op = true → EffMk P ops o (looks so) (S j) (H j) (H (j + 1)) (sv j)
def MkI (sl : List SOper) (i : Nat) : Prop := ∃ x, sl[i]? = some x ∧ isMk x.op = true
section
variable {al : List (Nat × Nat)} {PV : List Nat} {so : SOper}
theorem rs_u : ∀ k ∈ looks so, k ∈ (rsOf al PV so).u := fun k hk => by
  unfold rsOf
  split
  · split
    · exact List.mem_cons_of_mem _ hk
    · exact hk
  · split
    · exact List.mem_cons_of_mem _ hk
    · exact hk
  · split
    · rw [cnd_if]; split <;> exact hk
    · exact hk
  · split
    · rw [cnd_if]; split <;> exact hk
    · exact hk
  · exact hk
theorem rs_d {k : Nat} (hd : so.dst = some k) : k ∈ (rsOf al PV so).d := by
  unfold rsOf
  split
  · split <;> simp [hd]
  · split <;> simp [hd]
  · rw [hd]; simp only; rw [cnd_if]; split <;> simp
  · rw [hd]; simp only; rw [cnd_if]; split <;> simp
  · simp [hd]
theorem rs_store {sz : Nat} {x y : Operand} {p : Nat} (ho : so.op = .store sz x y) (hv : varOf al PV x = some p) : (1000000 + p) ∈ (rsOf al PV so).u ∧ (1000000 + p) ∈ (rsOf al PV so).d := by
  unfold rsOf
  rw [ho]; simp only [hv]
  exact ⟨List.mem_cons_self .., List.mem_cons_self ..⟩
theorem rs_new {p : Nat} (hn : isNew so.op = true) (hd : so.dst = some p) (hp : mem PV p = true) : (1000000 + p) ∈ (rsOf al PV so).d := by
  unfold rsOf
  cases ho : so.op <;> rw [ho] at hn <;> first | (cases hn; done) | skip
  all_goals simp only [hd, cnd_if, hp, if_true, List.mem_cons, true_or, or_true]
theorem rs_load {ag : Bool} {sz : Nat} {x : Operand} {p : Nat} (ho : so.op = .load ag sz x) (hv : varOf al PV x = some p) : (1000000 + p) ∈ (rsOf al PV so).u := by
  unfold rsOf
  rw [ho]; simp only [hv]
  exact List.mem_cons_self ..
theorem cls0_le (op : SOp) : cls0 op ≤ 4 := by cases op <;> simp [cls0]
end
section
variable {cx : Cx} {sl : List SOper} {so : SOper} {h : Hp} {fl : Nat}
theorem kd_heap (hk : KdOk cx h (olD cx sl so) (.heap fl)) : (rsD cx sl so).c ≠ 0 ∧ (fl = h.n ∨ (fl = h.fl ∧ barB cx.FL so (rsD cx sl so) = true)) := by
  obtain ⟨h1, h2, h3, h4⟩ := hk
  have h1 : cls0 so.op ≠ 0 := h1
  have hc : (rsD cx sl so).c = cls0 so.op := by
    have hls : ((∃ ag sz x, so.op = .load ag sz x) ∨ ∃ sz x y, so.op = .store sz x y) → vpOf (aliases cx.PV sl []) cx.PV so.op = none := fun hh => h2 hh _ rfl
    show (rsOf (aliases cx.PV sl []) cx.PV so).c = _
    unfold rsOf
    split
    · rename_i ag sz x ho
      have := hls (.inl ⟨ag, sz, x, ho⟩)
      rw [ho] at this
      have : varOf (aliases cx.PV sl []) cx.PV x = none := this
      rw [this, ho]; rfl
    · rename_i sz x y ho
      have := hls (.inr ⟨sz, x, y, ho⟩)
      rw [ho] at this
      have : varOf (aliases cx.PV sl []) cx.PV x = none := this
      rw [this, ho]; rfl
    · rename_i zs ho
      cases hd : so.dst with
      | none => rw [ho]; rfl
      | some d =>
        have := h4 (by rw [show (olD cx sl so).op = so.op from rfl, ho]; rfl) d hd
        simp only [this, cnd_if, Bool.false_eq_true, if_false, ho]; rfl
    · rename_i x ho
      cases hd : so.dst with
      | none => rw [ho]; rfl
      | some d =>
        have := h4 (by rw [show (olD cx sl so).op = so.op from rfl, ho]; rfl) d hd
        simp only [this, cnd_if, Bool.false_eq_true, if_false, ho]; rfl
    · rfl
  refine ⟨by rw [hc]; exact h1, h3.imp id fun ⟨g1, g2, g3⟩ => ⟨g1, ?_⟩⟩
  have g2 : 3 ≤ cls0 so.op := g2
  have g3 : inFL cx.FL so = false := g3
  unfold barB
  rw [hc, g3]
  have := cls0_le so.op
  rcases Nat.lt_or_ge (cls0 so.op) 4 with g | g
  · rw [show cls0 so.op = 3 by omega]; rfl
  · rw [show cls0 so.op = 4 by omega]; rfl
end
def Vr (V : Vw) (n : Nat) : Vw := ⟨fun b => V.S b ∧ b < n, V.ρ, V.σ, V.ε⟩
theorem Vr.ext (V : Vw) (n : Nat) : Ext (Vr V n) V := ⟨fun b h => h.1, fun b _ => rfl, fun b _ => rfl, fun b _ => rfl⟩
theorem Vr.mono {V V' : Vw} {n m : Nat} (h : Ext V V') (hn : n ≤ m) : Ext (Vr V n) (Vr V' m) := ⟨fun b hb => ⟨h.S b hb.1, by have := hb.2; omega⟩, fun b hb => h.ρ b hb.1, fun b hb => h.σ b hb.1, fun b hb => h.ε b hb.1⟩
theorem Vr.into {V' Vm : Vw} {n : Nat} (h : Ext V' Vm) (hn : ∀ b, V'.S b → b < n) : Ext V' (Vr Vm n) := ⟨fun b hb => ⟨h.S b hb, hn b hb⟩, h.ρ, h.σ, h.ε⟩
theorem EntR.sub {V V' : Vw} (h : Ext V V') {l : List X} {es : List MapEntry} (he : EntR V l es) : EntR V' l es := he.mono h
section
variable {P : Program} {cx : Cx} {ops : Array Oper} {sl : List SOper} {nt : Nat} {kd : Nat → Kd} {sv : Nat → SV} {var : Nat → Option (Nat × X)} {S : Nat → Sta} {H : Nat → Hp}
def uT (sl : List SOper) (sv : Nat → SV) (H : Nat → Hp) (j : Nat) : Option (Nat × (SV × Nat)) := (sl[j]?).bind fun so => so.dst.map fun d => (d, (sv j, (H (j + 1)).n))
def uC (var : Nat → Option (Nat × X)) (H : Nat → Hp) (j : Nat) : Option (Nat × (X × Nat)) := (var j).map fun q => (q.1, (q.2, (H (j + 1)).n))
def t0 (S : Nat → Sta) (H : Nat → Hp) (k : Nat) : Option (SV × Nat) := ((S 0).T k).map fun v => (v, (H 0).n)
def c0 (S : Nat → Sta) (H : Nat → Hp) (k : Nat) : Option (X × Nat) := ((S 0).C k).map fun v => (v, (H 0).n)
def Bar (cx : Cx) (sl : List SOper) (kd : Nat → Kd) (j : Nat) : Prop := isHp (kd j) ∧ ∃ so, sl[j]? = some so ∧ barB cx.FL so (rsD cx sl so) = true
theorem uT_key {j k : Nat} {so : SOper} (hso : sl[j]? = some so) (h : Key (uT sl sv H) j k) : so.dst = some k := by
  obtain ⟨v, hv⟩ := h
  unfold uT at hv
  rw [hso] at hv
  simp only [Option.bind_some, Option.map_eq_some_iff] at hv
  obtain ⟨d, h1, h2⟩ := hv
  cases h2; exact h1
theorem Dat.n_mono (hd : Dat P cx ops sl nt kd sv var S H) {i : Nat} : ∀ {j : Nat}, i ≤ j → j ≤ sl.length → (H i).n ≤ (H j).n
  | 0, h, _ => by have : i = 0 := by omega
                  subst this; exact Nat.le_refl _
  | j + 1, h, hj => by
    by_cases e : i = j + 1
    · subst e; exact Nat.le_refl _
    · exact Nat.le_trans (Dat.n_mono hd (j := j) (by omega) (by omega)) (hd.hle j (by omega)).n
theorem Dat.chain (hd : Dat P cx ops sl nt kd sv var S H) {i : Nat} : ∀ {j : Nat}, i ≤ j → j ≤ sl.length → (∀ q, i ≤ q → q < j → ¬ Bar cx sl kd q) → ∀ b, b < (H i).n → b < 65536 → gH (H j) b = gH (H i) b
  | 0, h, _, _, b, _, _ => by have : i = 0 := by omega
                              subst this; rfl
  | j + 1, h, hj, hb, b, h1, h2 => by
    by_cases e : i = j + 1
    · subst e; rfl
    · have ih := Dat.chain hd (j := j) (by omega) (by omega) (fun q hq hq' => hb q hq (by omega)) b h1 h2
      rw [← ih]
      have hbn : b < (H j).n := Nat.lt_of_lt_of_le h1 (hd.n_mono (by omega) (by omega))
      refine (hd.hle j (by omega)).get b ?_ hbn h2
      obtain ⟨so, hso⟩ : ∃ so, sl[j]? = some so := ⟨_, List.getElem?_eq_getElem (show j < sl.length by omega)⟩
      have hk := hd.kdo j so hso
      have hnb := hb j (by omega) (Nat.lt_succ_self _)
      cases hkd : kd j with
      | pure LC => exact hbn
      | store p => exact hbn
      | new p => exact hbn
      | heap fl =>
        rw [hkd] at hk
        rcases (kd_heap hk).2 with e | ⟨_, e⟩
        · show b < fl; omega
        · exact absurd ⟨by rw [hkd]; trivial, so, hso, e⟩ hnb
theorem Dat.S_T (hd : Dat P cx ops sl nt kd sv var S H) {k : Nat} : ∀ {j : Nat}, j ≤ sl.length → ∀ {v : SV}, (S j).T k = some v → ∃ n, FD (uT sl sv H) (fun _ => true) (t0 S H) j k = some (v, n)
  | 0, _, v, h => ⟨(H 0).n, by show t0 S H k = _; unfold t0; rw [h]; rfl⟩
  | j + 1, hj, v, h => by
    obtain ⟨so, hso⟩ : ∃ so, sl[j]? = some so := ⟨_, List.getElem?_eq_getElem (show j < sl.length by omega)⟩
    have h1 : (if so.dst = some k then some (sv j) else (S j).T k) = some v := (hd.le j so hso).1 k v h
    by_cases e : so.dst = some k
    · rw [if_pos e] at h1
      cases h1
      exact ⟨(H (j + 1)).n, FD_succ_key rfl (by unfold uT; rw [hso]; simp [e])⟩
    · rw [if_neg e] at h1
      obtain ⟨n, hn⟩ := Dat.S_T hd (j := j) (by omega) h1
      exact ⟨n, by rw [FD_succ_off (fun _ hk => e (uT_key hso hk))]; exact hn⟩
theorem Dat.S_C (hd : Dat P cx ops sl nt kd sv var S H) {k : Nat} : ∀ {j : Nat}, j ≤ sl.length → ∀ {v : X}, (S j).C k = some v → ∃ n, FD (uC var H) (fun _ => true) (c0 S H) j k = some (v, n)
  | 0, _, v, h => ⟨(H 0).n, by show c0 S H k = _; unfold c0; rw [h]; rfl⟩
  | j + 1, hj, v, h => by
    obtain ⟨so, hso⟩ : ∃ so, sl[j]? = some so := ⟨_, List.getElem?_eq_getElem (show j < sl.length by omega)⟩
    have h1 := (hd.le j so hso).2 k v h
    cases hv : var j with
    | none =>
      rw [hv] at h1
      obtain ⟨n, hn⟩ := Dat.S_C hd (j := j) (by omega) (show (S j).C k = some v from h1)
      exact ⟨n, by rw [FD_succ_off (fun _ ⟨w, hw⟩ => by unfold uC at hw; rw [hv] at hw; cases hw)]; exact hn⟩
    | some q =>
      obtain ⟨q, y⟩ := q
      rw [hv] at h1
      have h1 : (if q = k then some y else (S j).C k) = some v := h1
      by_cases e : q = k
      · subst e
        rw [if_pos rfl] at h1
        cases h1
        exact ⟨(H (j + 1)).n, FD_succ_key rfl (by unfold uC; rw [hv]; rfl)⟩
      · rw [if_neg e] at h1
        obtain ⟨n, hn⟩ := Dat.S_C hd (j := j) (by omega) h1
        exact ⟨n, by rw [FD_succ_off (fun _ ⟨w, hw⟩ => by unfold uC at hw; rw [hv] at hw; cases hw; exact e rfl)]; exact hn⟩
theorem Dat.bT (hd : Dat P cx ops sl nt kd sv var S H) {j k n : Nat} {v : SV} (hj : j ≤ sl.length) (h : FD (uT sl sv H) (fun _ => true) (t0 S H) j k = some (v, n)) : n ≤ (H j).n := by
  rcases FD_from h with h | ⟨i, h1, _, h2⟩
  · unfold t0 at h
    simp only [Option.map_eq_some_iff, Prod.mk.injEq] at h
    obtain ⟨_, _, _, rfl⟩ := h
    exact hd.n_mono (Nat.zero_le _) hj
  · unfold uT at h2
    simp only [Option.bind_eq_some_iff, Option.map_eq_some_iff, Prod.mk.injEq] at h2
    obtain ⟨_, _, _, _, _, _, rfl⟩ := h2
    exact hd.n_mono (by omega) hj
theorem Dat.bC (hd : Dat P cx ops sl nt kd sv var S H) {j k n : Nat} {v : X} (hj : j ≤ sl.length) (h : FD (uC var H) (fun _ => true) (c0 S H) j k = some (v, n)) : n ≤ (H j).n := by
  rcases FD_from h with h | ⟨i, h1, _, h2⟩
  · unfold c0 at h
    simp only [Option.map_eq_some_iff, Prod.mk.injEq] at h
    obtain ⟨_, _, _, rfl⟩ := h
    exact hd.n_mono (Nat.zero_le _) hj
  · unfold uC at h2
    simp only [Option.map_eq_some_iff, Prod.mk.injEq] at h2
    obtain ⟨_, _, _, _, rfl⟩ := h2
    exact hd.n_mono (by omega) hj
structure Inv (cx : Cx) (sl : List SOper) (kd : Nat → Kd) (sv : Nat → SV) (var : Nat → Option (Nat × X)) (S : Nat → Sta) (H : Nat → Hp) (B : Bs) (D : Nat → Bool) (a : Act) (w : World) (V : Vw) (γ : Nat → Nat) (β : Nat) : Prop where
  bm : β ≤ sl.length
  blo : ∀ j, j < β → Bar cx sl kd j → D j = true
  bat : β < sl.length → Bar cx sl kd β ∧ D β = false
  bhi : ∀ j, β ≤ j → j < sl.length → isHp (kd j) → D j = false ∨ MkI sl j
  mr : MR B.w0 (Vr V (H β).n) (H β) w
  nw : ∀ b, V.S b → B.w0.heap.size ≤ V.ρ b ∧ V.ρ b < w.heap.size
  mkr : ∀ b, V.S b → (H β).n ≤ b → b < 65536 ∧ (∃ i, β < i ∧ i < sl.length ∧ MkI sl i ∧ (H i).n = b ∧ (H (i + 1)).n = b + 1 ∧ BlkR (Vr V (H (i + 1)).n) w b (gH (H (i + 1)) b)) ∧ ∀ b', V.S b' → V.ρ b' = V.ρ b → b' = b
  bq : ∀ q, q ≤ sl.length → (∀ i, i < sl.length → Bar cx sl kd i → D i = true → i < q) → ∀ b, V.S b → b < (H q).n → b < (H β).n → BlkR (Vr V (H q).n) w b (gH (H β) b)
  nm : ∀ b, V.S b → b < (H 0).n ∨ ∃ i, i < sl.length ∧ D i = true ∧ isHp (kd i) ∧ (H i).n ≤ b ∧ b < (H (i + 1)).n
  stp : Stp B.fl B.V B.h B.w V w
  tm : ∀ k v n, FD (uT sl sv H) D (t0 S H) sl.length k = some (v, n) → SvR (Vr V n) γ (a.eval (.tmp k)) v
  vr : ∀ p x n, FD (uC var H) D (c0 S H) sl.length p = some (x, n) → B.w.heap.size ≤ γ p ∧ (∃ cells e, w.heap[γ p]? = some (.cells cells e (0, 0)) ∧ CtR (Vr V n) x cells) ∧ ∀ b, V.S b → V.ρ b ≠ γ p
  inj : ∀ p q x y, FD (uC var H) D (c0 S H) sl.length p = some x → FD (uC var H) D (c0 S H) sl.length q = some y → p ≠ q → γ p ≠ γ q
  df : a.defers = []
  sz : a.tmps.size = B.nt
  b0 : B.w0.heap.size ≤ B.w.heap.size
structure Next (cx : Cx) (sl : List SOper) (kd : Nat → Kd) (sv : Nat → SV) (var : Nat → Option (Nat × X)) (S : Nat → Sta) (H : Nat → Hp) (D : Nat → Bool) (j : Nat) (so : SOper) : Prop where
  lt : j < sl.length
  rdT : ∀ k ∈ looks so, FD (uT sl sv H) D (t0 S H) sl.length k = FD (uT sl sv H) (fun _ => true) (t0 S H) j k
  rdC : ∀ p, (1000000 + p) ∈ (rsD cx sl so).u → FD (uC var H) D (c0 S H) sl.length p = FD (uC var H) (fun _ => true) (c0 S H) j p
  inT : ∀ k, FD (uT sl sv H) (fun i => D i || i == j) (t0 S H) sl.length k = if so.dst = some k then some (sv j, (H (j + 1)).n) else FD (uT sl sv H) D (t0 S H) sl.length k
  inC : ∀ p, FD (uC var H) (fun i => D i || i == j) (c0 S H) sl.length p = match var j with
    | some (q, y) => if q = p then some (y, (H (j + 1)).n) else FD (uC var H) D (c0 S H) sl.length p
    | none => FD (uC var H) D (c0 S H) sl.length p
  lo : ∀ i, i < j → isHp (kd i) → isHp (kd j) → Bar cx sl kd i ∨ Bar cx sl kd j → D i = true ∨ (Bar cx sl kd i ∧ MkI sl j)
  hi : ∀ i, j < i → i < sl.length → isHp (kd i) → isHp (kd j) → Bar cx sl kd i ∨ Bar cx sl kd j → D i = false ∨ (Bar cx sl kd j ∧ MkI sl i)
theorem mk_nbar {i : Nat} (h : MkI sl i) : ¬ Bar cx sl kd i := fun ⟨_, so, h1, h2⟩ => by
  obtain ⟨x, h3, h4⟩ := h
  rw [h1] at h3; cases h3
  have : (rsD cx sl so).c = 2 := by
    cases ho : so.op <;> rw [ho] at h4 <;> first | (cases h4; done) | skip
    show (rsOf _ _ so).c = 2
    unfold rsOf; rw [ho]; rfl
  unfold barB at h2
  rw [this] at h2; cases h2
theorem Dat.uC_key (hd : Dat P cx ops sl nt kd sv var S H) {i p : Nat} {x : SOper} (hx : sl[i]? = some x) (h : Key (uC var H) i p) : (1000000 + p) ∈ (rsD cx sl x).d := by
  obtain ⟨v, hv⟩ := h
  obtain ⟨o, ho, _⟩ := hd.op i x hx
  have he := hd.eff i x o hx ho
  have hk := hd.kdo i x hx
  unfold uC at hv
  cases hkd : kd i with
  | pure LC => rw [hkd] at he; rw [he.1] at hv; cases hv
  | heap fl => rw [hkd] at he; rw [he.1] at hv; cases hv
  | store q =>
    rw [hkd] at he hk
    obtain ⟨_, y, _, hvar, _⟩ := he
    rw [hvar] at hv
    cases hv
    obtain ⟨h1, _, sz, a, b, hop⟩ := hk
    have h2 := h1 _ rfl
    have hop' : x.op = .store sz a b := hop
    have h2 : vpOf (aliases cx.PV sl []) cx.PV x.op = some q := h2
    rw [hop'] at h2
    exact (rs_store hop' h2).2
  | new q =>
    rw [hkd] at hk he
    obtain ⟨h1, h2, h3⟩ := hk
    obtain ⟨_, _, _, y, hvar, _⟩ := he
    rw [hvar] at hv
    cases hv
    exact rs_new h1 h2 h3
theorem apart_spec {x y : Rs} (h : apartD x y = true) : (∀ d ∈ x.d, d ∉ y.u ∧ d ∉ y.d) ∧ ∀ d ∈ y.d, d ∉ x.u := by
  unfold apartD at h
  simp only [Bool.and_eq_true, List.all_eq_true, Bool.not_eq_true', Bool.eq_false_iff, ne_eq, List.contains_iff_mem] at h
  exact ⟨h.1, h.2⟩
theorem Dat.next (hd : Dat P cx ops sl nt kd sv var S H) {D : Nat → Bool} (hD : Closed sl D) {j : Nat} {so : SOper} (ho : sl[j]? = some so) (hj : D j = false) (hjr : ∀ e ∈ so.after, D e = true) : Next cx sl kd sv var S H D j so := by
  obtain ⟨h1, h2⟩ := free_of hd.ok hD ho hj hjr
  have hlt : j < sl.length := (List.getElem?_eq_some_iff.1 ho).1
  have get : ∀ i, i < sl.length → ∃ x, sl[i]? = some x := fun i hi => ⟨_, List.getElem?_eq_getElem hi⟩
  have rd : ∀ {β : Type} {u : Nat → Option (Nat × β)} {t : Nat → Option β} {k K : Nat}, (∀ i x, sl[i]? = some x → Key u i k → K ∈ (rsD cx sl x).d) → K ∈ (rsD cx sl so).u → FD u D t sl.length k = FD u (fun _ => true) t j k := by
    intro β u t k K hK hu
    rw [← FD_cut (n := sl.length) (by omega)]
    refine FD_read fun i hi hk => ?_
    obtain ⟨x, hx⟩ := get i hi
    have hm := hK i x hx hk
    rcases Nat.lt_trichotomy i j with hij | rfl | hij
    · rw [decide_eq_true hij]
      rcases h1 i x hij hx with h | h
      · exact h
      · exact absurd hu ((apart_spec h.ap).1 K hm).1
    · rw [decide_eq_false (by omega)]; exact hj
    · rw [decide_eq_false (by omega)]
      cases hDi : D i with
      | false => rfl
      | true => exact absurd hu ((apart_spec (h2 i x hij hx hDi).ap).2 K hm)
  have ins : ∀ {β : Type} {u : Nat → Option (Nat × β)} {k : Nat} (f : Nat → Nat), (∀ i x, sl[i]? = some x → Key u i k → f k ∈ (rsD cx sl x).d) → ∀ i, j < i → i < sl.length → D i = true → Key u i k → ¬ Key u j k := by
    intro β u k f hK i hi hil hDi hk hk'
    obtain ⟨x, hx⟩ := get i hil
    exact ((apart_spec (h2 i x hi hx hDi).ap).1 _ (hK j so ho hk')).2 (hK i x hx hk)
  have kT : ∀ k i x, sl[i]? = some x → Key (uT sl sv H) i k → k ∈ (rsD cx sl x).d := fun k i x hx hk => rs_d (uT_key hx hk)
  have kC : ∀ p i x, sl[i]? = some x → Key (uC var H) i p → (1000000 + p) ∈ (rsD cx sl x).d := fun p i x hx hk => hd.uC_key hx hk
  have heap : ∀ i x, sl[i]? = some x → isHp (kd i) → (rsD cx sl x).c ≠ 0 := fun i x hx hh => by
    have hk := hd.kdo i x hx
    cases hkd : kd i with
    | heap fl => rw [hkd] at hk; exact (kd_heap hk).1
    | pure LC => rw [hkd] at hh; exact hh.elim
    | store p => rw [hkd] at hh; exact hh.elim
    | new p => rw [hkd] at hh; exact hh.elim
  refine ⟨hlt, fun k hk => rd (kT k) (rs_u k hk), fun p hp => rd (kC p) hp, fun k => ?_, fun p => ?_, fun i hi hhi hhj hb => ?_, fun i hi hil hhi hhj hb => ?_⟩
  · rw [FD_insert hj hlt (ins id (kT k))]
    unfold uT
    rw [ho]
    cases hdst : so.dst with
    | none => simp [hdst]
    | some d => simp [hdst]
  · rw [FD_insert hj hlt (ins (fun p => 1000000 + p) (kC p))]
    unfold uC
    cases var j with
    | none => rfl
    | some q => rfl
  · obtain ⟨x, hx⟩ := get i (by omega)
    rcases h1 i x hi hx with h | h
    · exact .inl h
    · have hbi := hb
      rcases hb with ⟨_, x', hx', hb⟩ | ⟨_, x', hx', hb⟩
      · rw [hx] at hx'; cases hx'
        rcases h.bx hb with h | h
        · exact absurd h (heap j so ho hhj)
        · exact .inr ⟨⟨hhi, x, hx, hb⟩, so, ho, h⟩
      · rw [ho] at hx'; cases hx'
        exact absurd (h.by_ hb) (heap i x hx hhi)
  · obtain ⟨x, hx⟩ := get i hil
    cases hDi : D i with
    | false => exact .inl rfl
    | true =>
      have h := h2 i x hi hx hDi
      rcases hb with ⟨_, x', hx', hb⟩ | ⟨_, x', hx', hb⟩
      · rw [hx] at hx'; cases hx'
        exact absurd (h.by_ hb) (heap j so ho hhj)
      · rw [ho] at hx'; cases hx'
        rcases h.bx hb with h | h
        · exact absurd h (heap i x hx hhi)
        · exact .inr ⟨⟨hhj, so, ho, hb⟩, x, hx, h⟩
end
end
end Go.M
set_option maxHeartbeats 2000000
namespace Go.M
open Go
open Go.Eng (SOp SOper SCode stripOper stripOps stripCode)
noncomputable section
variable [Ctxt]
def pk (p : Prop) (x y : Nat) : Nat := @ite Nat p (Classical.propDecidable p) x y
theorem pk_t {p : Prop} {x y : Nat} (h : p) : pk p x y = x := by unfold pk; exact if_pos h
theorem pk_f {p : Prop} {x y : Nat} (h : ¬ p) : pk p x y = y := by unfold pk; exact if_neg h
def mrg (V V' : Vw) : Vw := ⟨fun b => V.S b ∨ V'.S b, fun b => pk (V.S b) (V.ρ b) (V'.ρ b), fun b => pk (V.S b) (V.σ b) (V'.σ b), fun b => pk (V.S b) (V.ε b) (V'.ε b)⟩
theorem mrg_l (V V' : Vw) : Ext V (mrg V V') := ⟨fun b h => .inl h, fun b h => pk_t h, fun b h => pk_t h, fun b h => pk_t h⟩
theorem mrg_r {V V' : Vw} (h : ∀ b, V.S b → V'.S b → V'.ρ b = V.ρ b ∧ V'.σ b = V.σ b ∧ V'.ε b = V.ε b) : Ext V' (mrg V V') := by
  refine ⟨fun b h => .inr h, fun b hb => ?_, fun b hb => ?_, fun b hb => ?_⟩
  · show pk (V.S b) (V.ρ b) (V'.ρ b) = _
    by_cases hv : V.S b
    · rw [pk_t hv]; exact (h b hv hb).1.symm
    · rw [pk_f hv]
  · show pk (V.S b) (V.σ b) (V'.σ b) = _
    by_cases hv : V.S b
    · rw [pk_t hv]; exact (h b hv hb).2.1.symm
    · rw [pk_f hv]
  · show pk (V.S b) (V.ε b) (V'.ε b) = _
    by_cases hv : V.S b
    · rw [pk_t hv]; exact (h b hv hb).2.2.symm
    · rw [pk_f hv]
section
variable {P : Program} {cx : Cx} {ops : Array Oper} {sl : List SOper} {nt : Nat} {kd : Nat → Kd} {sv : Nat → SV} {var : Nat → Option (Nat × X)} {S : Nat → Sta} {H : Nat → Hp}
theorem Inv.tok (hd : Dat P cx ops sl nt kd sv var S H) {B : Bs} {D : Nat → Bool} {a : Act} {w : World} {V : Vw} {γ : Nat → Nat} {β j : Nat} {so : SOper} (hI : Inv cx sl kd sv var S H B D a w V γ β) (hN : Next cx sl kd sv var S H D j so) {V' : Vw} (hV : Ext (Vr V (H j).n) V') : TOk (S j) V' γ a (looks so) := fun k hk v hv => by
  obtain ⟨n, hn⟩ := hd.S_T (Nat.le_of_lt hN.lt) hv
  have hb := hd.bT (Nat.le_of_lt hN.lt) hn
  rw [← hN.rdT k hk] at hn
  have h1 := hI.tm k v n hn
  have h2 : Ext (Vr V n) (Vr V (H j).n) := Vr.mono (.refl V) hb
  exact (h1.mono h2).mono hV
theorem Inv.cok (hd : Dat P cx ops sl nt kd sv var S H) {B : Bs} {D : Nat → Bool} {a : Act} {w : World} {V : Vw} {γ : Nat → Nat} {β j : Nat} {so : SOper} (hI : Inv cx sl kd sv var S H B D a w V γ β) (hN : Next cx sl kd sv var S H D j so) {p : Nat} (hp : (1000000 + p) ∈ (rsD cx sl so).u) {x : X} (hx : (S j).C p = some x) :
    (∃ n, FD (uC var H) D (c0 S H) sl.length p = some (x, n)) ∧ VarR B.w.heap.size (Vr V (H j).n) γ w p x := by
  obtain ⟨n, hn⟩ := hd.S_C (Nat.le_of_lt hN.lt) hx
  have hb := hd.bC (Nat.le_of_lt hN.lt) hn
  rw [← hN.rdC p hp] at hn
  obtain ⟨h1, ⟨cells, e, h2, h3⟩, h4⟩ := hI.vr p x n hn
  exact ⟨⟨n, hn⟩, h1, ⟨cells, e, h2, h3.mono (Vr.mono (.refl V) hb)⟩, fun b hb => h4 b hb.1⟩
theorem tm_next {B : Bs} {D : Nat → Bool} {a : Act} {V V2 : Vw} {γ : Nat → Nat} {j : Nat} {so : SOper} {v : Value} (hN : Next cx sl kd sv var S H D j so) (hdst : ∀ t, so.dst = some t → t < a.tmps.size)
    (ht : ∀ k v n, FD (uT sl sv H) D (t0 S H) sl.length k = some (v, n) → SvR (Vr V n) γ (a.eval (.tmp k)) v) (hE : Ext V V2) (hv : so.dst ≠ none → SvR (Vr V2 (H (j + 1)).n) γ v (sv j)) :
    ∀ k u n, FD (uT sl sv H) (fun i => D i || i == j) (t0 S H) sl.length k = some (u, n) → SvR (Vr V2 n) γ ((a.put so.dst v).eval (.tmp k)) u := fun k u n hk => by
  rw [hN.inT k] at hk
  cases hs : so.dst with
  | none =>
    rw [hs, if_neg (by simp)] at hk
    rw [put_none]
    exact (ht k u n hk).mono (Vr.mono hE (Nat.le_refl _))
  | some t =>
    rw [hs] at hk
    rw [put_eval (hdst t hs)]
    by_cases e : t = k
    · subst e
      rw [if_pos rfl] at hk ⊢
      cases hk
      exact hv (by rw [hs]; simp)
    · rw [if_neg (by simpa using e)] at hk
      rw [if_neg e]
      exact (ht k u n hk).mono (Vr.mono hE (Nat.le_refl _))
theorem BlkR.sameW {V V' : Vw} {w w' : World} {b : Nat} {x : X} (h : Ext V V') (hb : V.S b) (hw : w'.heap[V.ρ b]? = w.heap[V.ρ b]?) (hx : BlkR V w b x) : BlkR V' w' b x := hx.mono h hb hw
theorem uniq_i (hd : Dat P cx ops sl nt kd sv var S H) {i i' b : Nat} (h1 : i < sl.length) (h2 : i' < sl.length) (k3 : (H i).n = b) (k4 : (H i').n = b) (h3 : (H (i + 1)).n = b + 1) (h4 : (H (i' + 1)).n = b + 1) : i = i' := by
  rcases Nat.lt_trichotomy i i' with h | h | h
  · have := hd.n_mono (i := i + 1) (j := i') h (by omega)
    omega
  · exact h
  · have := hd.n_mono (i := i' + 1) (j := i) h (by omega)
    omega
theorem inv_step (hd : Dat P cx ops sl nt kd sv var S H) {B : Bs} (hBn : B.nt = nt) (hBf : B.fl = (H 0).fl) (hBh : B.h.n ≤ (H 0).n) {D : Nat → Bool} {j : Nat} {so : SOper} {o : Oper} (hso : sl[j]? = some so) (ho : ops[j]? = some o) (hs1 : stripOper P ops true o = some so) (hj : D j = false) (hDc : Closed sl D) (hN : Next cx sl kd sv var S H D j so)
    {a : Act} {w : World} {V : Vw} {γ : Nat → Nat} {β : Nat} (hI : Inv cx sl kd sv var S H B D a w V γ β) :
    GW P ops o a w fun v w' => ∃ V' γ' β', Inv cx sl kd sv var S H B (fun i => D i || i == j) (a.put o.dst v) w' V' γ' β' := by
  have hlt := hN.lt
  have hod : o.dst = so.dst := (stripOper_some hs1).2.1.symm
  rw [hod]
  have hdst : ∀ t, so.dst = some t → t < a.tmps.size := fun t ht => by rw [hI.sz, hBn]; exact (okD_some (hd.okd j so hso) t ht).1
  have he := hd.eff j so o hso ho
  have hk := hd.kdo j so hso
  have hsetD : ∀ i, (D i || i == j) = true ↔ D i = true ∨ i = j := fun i => by simp
  have hjD : ∀ i, i ≠ j → (D i || i == j) = D i := fun i hi => by simp [hi]
  have hn1 : (H j).n ≤ (H (j + 1)).n := (hd.hle j hlt).n
  cases hkd : kd j with
  | new p =>
    rw [hkd] at he hk
    obtain ⟨hHH, hsv, _, x, hvar, he⟩ := he
    obtain ⟨hnw, hdp, hpv⟩ := hk
    have hnw : isNew so.op = true := hnw
    have hdp : so.dst = some p := hdp
    have hnb : ¬ Bar cx sl kd j := fun hb => by have := hb.1; rw [hkd] at this; exact this
    have hoff := newOk_of hd.ok hDc hso hnw hdp hpv hj
    have hno : ∀ k off c n, k ≠ p → FD (uT sl sv H) D (t0 S H) sl.length k ≠ some (.ptr p off c, n) := fun k off c n hkp hk => by
      rcases FD_from hk with h | ⟨i, h1, h2, h3⟩
      · unfold t0 at h
        simp only [Option.map_eq_some_iff, Prod.mk.injEq] at h
        obtain ⟨v, h4, rfl, _⟩ := h
        exact hkp (hd.s0 k p off c h4)
      · have hij : i ≠ j := fun e => by rw [e, hj] at h2; cases h2
        obtain ⟨so', hso'⟩ : ∃ so', sl[i]? = some so' := ⟨_, List.getElem?_eq_getElem h1⟩
        have hdk := uT_key hso' ⟨_, h3⟩
        unfold uT at h3
        rw [hso'] at h3
        simp only [Option.bind_some, Option.map_eq_some_iff, Prod.mk.injEq] at h3
        obtain ⟨d, _, _, h4, _⟩ := h3
        rcases hd.svo i so' hso' p off c h4 (by show so'.dst ≠ none; rw [hdk]; simp) with h5 | h5
        · have hk' := hd.kdo i so' hso'
          rw [h5] at hk'
          have h6 : so'.dst = some p := hk'.2.1
          rw [hdk] at h6
          exact hkp (by simpa using h6)
        · have := hoff i so' hij hso' (h5 _ rfl)
          rw [h2] at this; cases this
    have hlt' : ∀ b, V.S b → V.ρ b ≠ w.heap.size := fun b hb => by have := (hI.nw b hb).2; omega
    refine (he (Vr V (H j).n) γ w a (hI.tok hd hN (.refl _))).mono fun v w' ⟨h0, cells, e, h1, h2, h3⟩ => ?_
    subst h0
    refine ⟨V, fun q => if q = p then w.heap.size else γ q, β, ⟨hI.bm, fun i hi hb => by have := hI.blo i hi hb; simp [this], fun hb => ⟨(hI.bat hb).1, ?_⟩, fun i h1 h3 h4 => ?_, hI.mr.setAt h1 (by omega) hI.mr.sz (fun b hb => hlt' b hb.1), fun b hb => ⟨(hI.nw b hb).1, by have := (hI.nw b hb).2; omega⟩, fun b hb hn => by
        obtain ⟨m1, ⟨i, m2, m3, mk, m4, m5, m6⟩, m7⟩ := hI.mkr b hb hn
        exact ⟨m1, ⟨i, m2, m3, mk, m4, m5, m6.world (h1.keep _ (hlt' b hb))⟩, m7⟩,
      fun q hq hb b hbS hbn hbβ => (hI.bq q hq (fun i hi hbi hDi => hb i hi hbi (by simp [hDi])) b hbS hbn hbβ).world (h1.keep _ (hlt' b hbS)), fun b hb => ?_, ?_, fun k u n hk => ?_, fun q z n hq => ?_, fun q q' z z' hq hq' hne => ?_, by rw [put_defers]; exact hI.df, by rw [put_size]; exact hI.sz, hI.b0⟩⟩
    · rw [hjD β (fun e => hnb (e ▸ (hI.bat hb).1))]; exact (hI.bat hb).2
    · rw [hjD i (fun e => by subst e; rw [hkd] at h4; exact h4)]; exact hI.bhi i h1 h3 h4
    · rcases hI.nm b hb with h | ⟨i, h5, h6, h7⟩
      · exact .inl h
      · exact .inr ⟨i, h5, by simp [h6], h7⟩
    · exact ⟨hI.stp.ext, hI.stp.new, fun g hg hk => by rw [h1.keep g (by have := hI.stp.size; omega)]; exact hI.stp.keep g hg hk, by have := hI.stp.size; omega⟩
    · rw [hN.inT k] at hk
      rw [hdp] at hk ⊢
      rw [put_eval (hdst p hdp)]
      by_cases e : p = k
      · subst e
        rw [if_pos rfl] at hk ⊢
        simp only [Option.some.injEq, Prod.mk.injEq] at hk
        obtain ⟨rfl, rfl⟩ := hk
        rw [hsv]
        intro _
        show _ = Value.pointer (some ⟨if p = p then w.heap.size else γ p, 0, none⟩)
        rw [if_pos rfl]
      · rw [if_neg (by simpa using e)] at hk
        rw [if_neg e]
        have := hI.tm k u n hk
        cases u with
        | val z => exact this
        | ptr q off c =>
          have hqp : q ≠ p := fun e' => hno k off c n (Ne.symm e) (by rw [← e']; exact hk)
          intro hc
          show _ = Value.pointer (some ⟨if q = p then w.heap.size else γ q, off, none⟩)
          rw [if_neg hqp]; exact this hc
    · rw [hN.inC, hvar] at hq
      simp only at hq
      by_cases e2 : p = q
      · subst e2
        rw [if_pos rfl] at hq
        simp only [Option.some.injEq, Prod.mk.injEq] at hq
        obtain ⟨rfl, rfl⟩ := hq
        refine ⟨?_, ?_, ?_⟩ <;> simp only [if_true]
        · exact hI.stp.size
        · exact ⟨cells, e, h1.get, h3.mono (Vr.mono (.refl V) hn1)⟩
        · exact hlt'
      · rw [if_neg e2] at hq
        obtain ⟨g1, ⟨c2, e3, g2, g3⟩, g4⟩ := hI.vr q z n hq
        have hsz : γ q < w.heap.size := (Array.getElem?_eq_some_iff.1 g2).1
        refine ⟨?_, ?_, ?_⟩ <;> simp only [if_neg (Ne.symm e2)]
        · exact g1
        · exact ⟨c2, e3, by rw [h1.keep _ (by omega)]; exact g2, g3⟩
        · exact g4
    · have key : ∀ {q z}, q ≠ p → FD (uC var H) (fun i => D i || i == j) (c0 S H) sl.length q = some z → FD (uC var H) D (c0 S H) sl.length q = some z := fun {q z} hn hq => by
        rw [hN.inC, hvar] at hq
        simp only at hq
        rw [if_neg (Ne.symm hn)] at hq; exact hq
      have size : ∀ {q z}, FD (uC var H) D (c0 S H) sl.length q = some z → γ q < w.heap.size := fun {q z} hq => by
        obtain ⟨z, n⟩ := z
        obtain ⟨_, ⟨c2, e3, g2, _⟩, _⟩ := hI.vr q z n hq
        exact (Array.getElem?_eq_some_iff.1 g2).1
      show (if q = p then w.heap.size else γ q) ≠ (if q' = p then w.heap.size else γ q')
      by_cases e1 : q = p
      · have e2 : q' ≠ p := fun e => hne (e1.trans e.symm)
        rw [if_pos e1, if_neg e2]
        have := size (key e2 hq')
        omega
      · by_cases e2 : q' = p
        · rw [if_neg e1, if_pos e2]
          have := size (key e1 hq)
          omega
        · rw [if_neg e1, if_neg e2]
          exact hI.inj q q' z z' (key e1 hq) (key e2 hq') hne
  | pure LC =>
    rw [hkd] at he hk
    obtain ⟨hvar, he⟩ := he
    have hnb : ¬ Bar cx sl kd j := fun hb => by have := hb.1; rw [hkd] at this; exact this
    have hLC : ∀ p ∈ LC, (1000000 + p) ∈ (rsD cx sl so).u := fun p hp => by
      rcases hk with h | ⟨q, h1, h2, ag, sz, x, hop⟩
      · rw [h] at hp; simp at hp
      · rw [h1] at hp
        simp at hp; subst hp
        have h2 := h2 _ rfl
        have hop : so.op = .load ag sz x := hop
        have h2 : vpOf (aliases cx.PV sl []) cx.PV so.op = some p := h2
        rw [hop] at h2
        exact rs_load hop h2
    refine (he B.w.heap.size (Vr V (H j).n) γ w a (hI.tok hd hN (.refl _)) fun p hp x hx => (hI.cok hd hN (hLC p hp) hx).2).mono fun v w' ⟨h1, h2⟩ => ?_
    subst h1
    refine ⟨V, γ, β, ⟨hI.bm, fun i hi hb => by have := hI.blo i hi hb; simp [this], fun hb => ⟨(hI.bat hb).1, ?_⟩, fun i h1 h3 h4 => ?_, hI.mr, hI.nw, hI.mkr, fun q hq hb => hI.bq q hq fun i hi hbi hDi => hb i hi hbi (by simp [hDi]), fun b hb => ?_, hI.stp,
      tm_next (B := B) hN hdst hI.tm (.refl V) (fun _ => h2.mono (Vr.mono (.refl V) hn1)), fun p x n hp => ?_, fun p q x y hp hq => ?_, by rw [put_defers]; exact hI.df, by rw [put_size]; exact hI.sz, hI.b0⟩⟩
    · rw [hjD β (fun e => hnb (e ▸ (hI.bat hb).1))]; exact (hI.bat hb).2
    · rw [hjD i (fun e => by subst e; rw [hkd] at h4; exact h4)]; exact hI.bhi i h1 h3 h4
    · rcases hI.nm b hb with h | ⟨i, h5, h6, h7⟩
      · exact .inl h
      · exact .inr ⟨i, h5, by simp [h6], h7⟩
    · rw [hN.inC, hvar] at hp; exact hI.vr p x n hp
    · rw [hN.inC, hvar] at hp hq; exact hI.inj p q x y hp hq
  | store p =>
    rw [hkd] at he hk
    obtain ⟨hHH, x, y, hvar, hy, he⟩ := he
    have hnb : ¬ Bar cx sl kd j := fun hb => by have := hb.1; rw [hkd] at this; exact this
    obtain ⟨k1, k2, sz, xa, xb, hop⟩ := hk
    have hvp := k1 _ rfl
    have hop : so.op = .store sz xa xb := hop
    have hvp : vpOf (aliases cx.PV sl []) cx.PV so.op = some p := hvp
    rw [hop] at hvp
    have hpu := (rs_store hop hvp).1
    obtain ⟨⟨n0, hn0⟩, hpv⟩ := hI.cok hd hN hpu hy
    have hnames : ∀ b, V.S b → V.ρ b ≠ γ p := (hI.vr p y n0 hn0).2.2
    refine (he B.w.heap.size (Vr V (H j).n) γ w a (hI.tok hd hN (.refl _)) fun q hq z hz => by simp at hq; subst hq; exact (hI.cok hd hN hpu hz).2).mono fun v w' ⟨cells, e, h1, h2, h3⟩ => ?_
    refine ⟨V, γ, β, ⟨hI.bm, fun i hi hb => by have := hI.blo i hi hb; simp [this], fun hb => ⟨(hI.bat hb).1, ?_⟩, fun i h1 h3 h4 => ?_, hI.mr.setAt h1 (by omega) (Nat.le_trans hI.b0 hpv.1) (fun b hb => hnames b hb.1), fun b hb => ⟨(hI.nw b hb).1, by rw [h2]; exact (hI.nw b hb).2⟩, fun b hb hn => by
        obtain ⟨m1, ⟨i, m2, m3, mk, m4, m5, m6⟩, m7⟩ := hI.mkr b hb hn
        exact ⟨m1, ⟨i, m2, m3, mk, m4, m5, m6.world (h1.keep _ (hnames b hb))⟩, m7⟩,
      fun q hq hb b hbS hbn hbβ => (hI.bq q hq (fun i hi hbi hDi => hb i hi hbi (by simp [hDi])) b hbS hbn hbβ).world (h1.keep _ (hnames b hbS)), fun b hb => ?_, ?_,
      tm_next (B := B) hN hdst hI.tm (.refl V) (fun hne => absurd k2 hne), fun q z n hq => ?_, fun q q' z z' hq hq' hne => ?_, by rw [put_defers]; exact hI.df, by rw [put_size]; exact hI.sz, hI.b0⟩⟩
    · rw [hjD β (fun e => hnb (e ▸ (hI.bat hb).1))]; exact (hI.bat hb).2
    · rw [hjD i (fun e => by subst e; rw [hkd] at h4; exact h4)]; exact hI.bhi i h1 h3 h4
    · rcases hI.nm b hb with h | ⟨i, h5, h6, h7⟩
      · exact .inl h
      · exact .inr ⟨i, h5, by simp [h6], h7⟩
    · exact ⟨hI.stp.ext, hI.stp.new, fun g hg hk => by rw [h1.keep g (by have := hpv.1; omega)]; exact hI.stp.keep g hg hk, by rw [h2]; exact hI.stp.size⟩
    · rw [hN.inC, hvar] at hq
      simp only at hq
      by_cases e2 : p = q
      · subst e2
        rw [if_pos rfl] at hq
        simp only [Option.some.injEq, Prod.mk.injEq] at hq
        obtain ⟨rfl, rfl⟩ := hq
        exact ⟨hpv.1, ⟨cells, e, h1.get, h3.mono (Vr.mono (.refl V) hn1)⟩, hnames⟩
      · rw [if_neg e2] at hq
        obtain ⟨g1, ⟨c2, e3, g2, g3⟩, g4⟩ := hI.vr q z n hq
        exact ⟨g1, ⟨c2, e3, by rw [h1.keep _ (hI.inj q p _ _ hq hn0 (Ne.symm e2))]; exact g2, g3⟩, g4⟩
    · have key : ∀ {q z}, FD (uC var H) (fun i => D i || i == j) (c0 S H) sl.length q = some z → ∃ z', FD (uC var H) D (c0 S H) sl.length q = some z' := fun {q z} hq => by
        rw [hN.inC, hvar] at hq
        simp only at hq
        by_cases e2 : p = q
        · subst e2; exact ⟨_, hn0⟩
        · rw [if_neg e2] at hq; exact ⟨_, hq⟩
      obtain ⟨z1, hz1⟩ := key hq
      obtain ⟨z2, hz2⟩ := key hq'
      exact hI.inj q q' z1 z2 hz1 hz2 hne
  | heap fl =>
    rw [hkd] at he hk
    obtain ⟨hvar, x, hsv, he⟩ := he
    have hhj : isHp (kd j) := by rw [hkd]; trivial
    have hfl := (kd_heap hk).2
    have hinC : ∀ p, FD (uC var H) (fun i => D i || i == j) (c0 S H) sl.length p = FD (uC var H) D (c0 S H) sl.length p := fun p => by rw [hN.inC, hvar]
    by_cases hbj : Bar cx sl kd j
    · -- all that looks at the heap is ordered with it
      have hnmk : ¬ MkI sl j := fun h => mk_nbar h hbj
      have hjb : j = β := by
        rcases Nat.lt_trichotomy j β with h | h | h
        · have := hI.blo j h hbj; rw [hj] at this; cases this
        · exact h
        · have hβ := hI.bat (by omega)
          rcases hN.lo β h hβ.1.1 hhj (.inl hβ.1) with h | ⟨_, h⟩
          · rw [hβ.2] at h; cases h
          · exact absurd h hnmk
      subst hjb
      refine (he B.w0 (Vr V (H j).n) γ w a hI.mr (hI.tok hd hN (.refl _))).mono fun v w' ⟨V', g1, g2, g3⟩ => ?_
      obtain ⟨β', c1, c2, c3, c4⟩ : ∃ β', j < β' ∧ β' ≤ sl.length ∧ (∀ q, j < q → q < β' → ¬ Bar cx sl kd q) ∧ (β' < sl.length → Bar cx sl kd β') := by
        by_cases hex : ∃ q, j < q ∧ q < sl.length ∧ Bar cx sl kd q
        · have least : ∀ n, (∃ q, j < q ∧ q ≤ n ∧ q < sl.length ∧ Bar cx sl kd q) → ∃ q, j < q ∧ q < sl.length ∧ Bar cx sl kd q ∧ ∀ q', j < q' → q' < q → ¬ Bar cx sl kd q' := by
            intro n
            induction n with
            | zero => rintro ⟨q, h1, h2, _⟩; omega
            | succ n ih =>
              rintro ⟨q, h1, h2, h3, h4⟩
              by_cases hh : ∃ q, j < q ∧ q ≤ n ∧ q < sl.length ∧ Bar cx sl kd q
              · exact ih hh
              · exact ⟨q, h1, h3, h4, fun q' h5 h6 hb => hh ⟨q', h5, by omega, by omega, hb⟩⟩
          obtain ⟨q, h1, h2, h3⟩ := hex
          obtain ⟨q, d1, d2, d3, d4⟩ := least q ⟨q, h1, Nat.le_refl _, h2, h3⟩
          exact ⟨q, d1, Nat.le_of_lt d2, d4, fun _ => d3⟩
        · exact ⟨sl.length, hlt, Nat.le_refl _, fun q h1 h2 hb => hex ⟨q, h1, h2, hb⟩, fun h => absurd h (Nat.lt_irrefl _)⟩
      have hch : ∀ b, V'.S b → gH (H β') b = gH (H (j + 1)) b := fun b hb => hd.chain (i := j + 1) (by omega) c2 (fun q h1 h2 => c3 q (by omega) h2) b (g1.nb b hb).1 (g1.nb b hb).2
      have hV'n : ∀ b, V'.S b → b < (H (j + 1)).n := fun b hb => (g1.nb b hb).1
      have hV'β : ∀ b, V'.S b → b < (H β').n := fun b hb => Nat.lt_of_lt_of_le (hV'n b hb) (hd.n_mono (by omega) c2)
      have hflB : B.fl ≤ fl := by
        have h1 := hd.fl j (Nat.le_of_lt hlt)
        have h2 := hd.fln j (Nat.le_of_lt hlt)
        rcases hfl with e | ⟨e, _⟩ <;> omega
      have hxi : ∀ b, V.S b → (H j).n ≤ b → b < 65536 ∧ ∃ i, j < i ∧ i < sl.length ∧ MkI sl i ∧ (H i).n = b ∧ (H (i + 1)).n = b + 1 ∧ BlkR (Vr V (H (i + 1)).n) w b (gH (H (i + 1)) b) := fun b hb hn => ⟨(hI.mkr b hb hn).1, (hI.mkr b hb hn).2.1⟩
      have hxu : ∀ b, V.S b → (H j).n ≤ b → ∀ b', V.S b' → V.ρ b' = V.ρ b → b' = b := fun b hb hn => (hI.mkr b hb hn).2.2
      have hboth : ∀ b, V.S b → V'.S b → b < (H j).n := fun b hb hb' => by
        rcases Nat.lt_or_ge b (H j).n with h | h
        · exact h
        · obtain ⟨_, i, i1, i2, _, i3, _⟩ := hxi b hb h
          have := hV'n b hb'
          have := hd.n_mono (i := j + 1) (j := i) (by omega) (by omega)
          omega
      have hagree : ∀ b, V.S b → V'.S b → V'.ρ b = V.ρ b ∧ V'.σ b = V.σ b ∧ V'.ε b = V.ε b := fun b hb hb' => by
        have hr : (Vr V (H j).n).S b := ⟨hb, hboth b hb hb'⟩
        exact ⟨g3.ext.ρ b hr, g3.ext.σ b hr, g3.ext.ε b hr⟩
      have hEl := mrg_l V V'
      have hEr := mrg_r hagree
      have hSm0 : ∀ b, (mrg V V').S b → V'.S b ∨ (V.S b ∧ (H j).n ≤ b) := fun b hb => by
        rcases hb with h | h
        · rcases Nat.lt_or_ge b (H j).n with hn | hn
          · exact .inl (g3.ext.S b ⟨h, hn⟩)
          · exact .inr ⟨h, hn⟩
        · exact .inl h
      generalize mrg V V' = Vm at hEl hEr hSm0
      have hkX : ∀ b, V.S b → (H j).n ≤ b → w'.heap[V.ρ b]? = w.heap[V.ρ b]? := fun b hb hn => g3.keep _ (hI.nw b hb).2 fun b0 hb0 _ e => by
        have := hxu b hb hn b0 hb0.1 e
        subst this
        have := hb0.2
        omega
      have hρX : ∀ b b', V.S b → (H j).n ≤ b → V'.S b' → V'.ρ b' ≠ V.ρ b := fun b b' hb hn hb' e => by
        rcases g3.new b' hb' with h | ⟨_, h | ⟨b0, h3, _, h5⟩⟩
        · rw [g3.ext.ρ b' h] at e
          have := hxu b hb hn b' h.1 e
          subst this
          have := h.2
          omega
        · have := (hI.nw b hb).2
          omega
        · rw [h5] at e
          have := hxu b hb hn b0 h3.1 e
          subst this
          have := h3.2
          omega
      have hXq : ∀ b, V.S b → (H j).n ≤ b → ∀ q, q ≤ sl.length → b < (H q).n → ∃ i, j < i ∧ i < q ∧ (H i).n = b ∧ (H (i + 1)).n = b + 1 ∧ b < 65536 ∧ BlkR (Vr Vm (H q).n) w' b (gH (H (i + 1)) b) := fun b hb hn q hq hbq => by
        obtain ⟨h65, i, i1, i2, _, i3, i4, i5⟩ := hxi b hb hn
        have hiq : i < q := by
          rcases Nat.lt_or_ge i q with h | h
          · exact h
          · have := hd.n_mono (i := q) (j := i) h (by omega)
            omega
        exact ⟨i, i1, hiq, i3, i4, h65, i5.mono (Vr.mono hEl (hd.n_mono (by omega) hq)) ⟨hb, by omega⟩ (hkX b hb hn)⟩
      have hchX : ∀ b i, j < i → i < β' → (H (i + 1)).n = b + 1 → b < 65536 → gH (H β') b = gH (H (i + 1)) b := fun b i h1 h2 h3 h4 => hd.chain (i := i + 1) (by omega) c2 (fun q h5 h6 => c3 q (by omega) h6) b (by omega) h4
      have hnw : ∀ b, Vm.S b → B.w0.heap.size ≤ Vm.ρ b ∧ Vm.ρ b < w'.heap.size := fun b hb => by
        rcases hSm0 b hb with h | ⟨h, _⟩
        · rw [hEr.ρ b h]; exact g1.nw b h
        · rw [hEl.ρ b h]; exact ⟨(hI.nw b h).1, Nat.lt_of_lt_of_le (hI.nw b h).2 g3.size⟩
      have hmr : MR B.w0 (Vr Vm (H β').n) (H β') w' := by
        refine ⟨fun b hb => ⟨hb.2, ?_⟩, fun b hb => ?_, fun b b' hb hb' h1 h2 e => ?_, fun b hb => hnw b hb.1, g1.old, g1.sz, g1.os, g1.tape, g1.output, g1.ar⟩
        · rcases hSm0 b hb.1 with h | ⟨h, hn⟩
          · exact (g1.nb b h).2
          · exact (hxi b h hn).1
        · rcases hSm0 b hb.1 with h | ⟨h, hn⟩
          · rw [hch b h]; exact (g1.bl b h).mono (Vr.into hEr hV'β) h rfl
          · obtain ⟨i, i1, i2, _, i3, i4, i5⟩ := hXq b h hn β' c2 hb.2
            rw [hchX b i i1 i2 i3 i4]; exact i5
        · have e : Vm.ρ b = Vm.ρ b' := e
          rcases hSm0 b hb.1 with h | ⟨h, hn⟩
          · rcases hSm0 b' hb'.1 with h' | ⟨h', hn'⟩
            · rw [hEr.ρ b h, hEr.ρ b' h'] at e
              exact g1.inj b b' h h' (by rw [← hch b h]; exact h1) (by rw [← hch b' h']; exact h2) e
            · rw [hEr.ρ b h, hEl.ρ b' h'] at e
              exact absurd e (hρX b' b h' hn' h)
          · rcases hSm0 b' hb'.1 with h' | ⟨h', hn'⟩
            · rw [hEl.ρ b h, hEr.ρ b' h'] at e
              exact absurd e.symm (hρX b b' h hn h')
            · rw [hEl.ρ b h, hEl.ρ b' h'] at e
              exact (hxu b h hn b' h' e.symm).symm
      refine ⟨Vm, γ, β', ⟨c2, fun i hi hb => ?_, fun hb => ⟨c4 hb, ?_⟩, fun i h1 h3 h4 => ?_, hmr, hnw, fun b hb hn => ?_, fun q hq hb b hbS hbn hbβ => ?_, fun b hb => ?_, hI.stp.trans (h' := H j) (Nat.le_trans hBh (hd.n_mono (Nat.zero_le _) (Nat.le_of_lt hlt))) ⟨hEl, fun b hb => ?_, fun g hg hk => ?_, g3.size⟩,
        tm_next (B := B) hN hdst hI.tm hEl (fun _ => ?_), fun p z n hp => ?_, fun p q z z' hp hq => ?_, by rw [put_defers]; exact hI.df, by rw [put_size]; exact hI.sz, hI.b0⟩⟩
      · rcases Nat.lt_trichotomy i j with h | h | h
        · have := hI.blo i h hb; simp [this]
        · simp [h]
        · exact absurd hb (c3 i h hi)
      · rw [hjD β' (by omega)]
        rcases hN.hi β' c1 hb (c4 hb).1 hhj (.inl (c4 hb)) with h | ⟨_, h⟩
        · exact h
        · exact absurd (c4 hb) (mk_nbar h)
      · rw [hjD i (by omega)]
        exact hI.bhi i (by omega) h3 h4
      · rcases hSm0 b hb with h | ⟨h, hnj⟩
        · have := hV'β b h; omega
        · obtain ⟨h65, i, i1, i2, imk, i3, i4, i5⟩ := hxi b h hnj
          have hiβ : β' < i := by
            rcases Nat.lt_trichotomy β' i with h | h | h
            · exact h
            · exact absurd (c4 (by omega)) (mk_nbar (h ▸ imk))
            · have := hd.n_mono (i := i + 1) (j := β') (by omega) c2
              omega
          refine ⟨h65, ⟨i, hiβ, i2, imk, i3, i4, i5.mono (Vr.mono hEl (Nat.le_refl _)) ⟨h, by omega⟩ (hkX b h hnj)⟩, fun b' hb' e => ?_⟩
          rw [hEl.ρ b h] at e
          rcases hSm0 b' hb' with h' | ⟨h', _⟩
          · rw [hEr.ρ b' h'] at e
            exact absurd e (hρX b b' h hnj h')
          · rw [hEl.ρ b' h'] at e
            exact hxu b h hnj b' h' e
      · have hjq : j < q := hb j hlt hbj (by simp)
        rcases hSm0 b hbS with h | ⟨h, hn⟩
        · rw [hch b h]
          exact (g1.bl b h).mono (Vr.into hEr fun b hb => Nat.lt_of_lt_of_le (hV'n b hb) (hd.n_mono (by omega) hq)) h rfl
        · obtain ⟨i, i1, i2, i0, i3, i4, _⟩ := hXq b h hn β' c2 hbβ
          obtain ⟨i', j1, j2, j0, j3, j4, j5⟩ := hXq b h hn q hq hbn
          rw [hchX b i i1 i2 i3 i4]
          have hii : i = i' := uniq_i hd (by omega) (by omega) i0 j0 i3 j3
          rw [hii]; exact j5
      · rcases hSm0 b hb with h | ⟨h, _⟩
        · rcases g3.new b h with h | ⟨h1, _⟩
          · rcases hI.nm b h.1 with h | ⟨i, h5, h6, h7⟩
            · exact .inl h
            · exact .inr ⟨i, h5, by simp [h6], h7⟩
          · exact .inr ⟨j, hlt, by simp, hhj, h1, hV'n b h⟩
        · rcases hI.nm b h with h | ⟨i, h5, h6, h7⟩
          · exact .inl h
          · exact .inr ⟨i, h5, by simp [h6], h7⟩
      · rcases hSm0 b hb with h | ⟨h, _⟩
        · rcases g3.new b h with h | ⟨h1, h2⟩
          · exact .inl h.1
          · rw [hEr.ρ b h]
            exact .inr ⟨h1, h2.imp id fun ⟨b0, h3, h4, h5⟩ => ⟨b0, h3.1, Nat.le_trans hflB h4, h5⟩⟩
        · exact .inl h
      · exact g3.keep g hg fun b hb hf => hk b hb.1 (Nat.le_trans hflB hf)
      · rw [hsv]
        exact g2.mono (Vr.into hEr hV'n)
      · rw [hinC] at hp
        obtain ⟨q1, ⟨cells, e, q2, q3⟩, q4⟩ := hI.vr p z n hp
        have hsz : γ p < w.heap.size := (Array.getElem?_eq_some_iff.1 q2).1
        refine ⟨q1, ⟨cells, e, by rw [g3.keep _ hsz fun b hb _ => q4 b hb.1]; exact q2, q3.mono (Vr.mono hEl (Nat.le_refl _))⟩, fun b hb => ?_⟩
        rcases hSm0 b hb with h | ⟨h, _⟩
        · rw [hEr.ρ b h]
          rcases g3.new b h with hb | ⟨_, hb | ⟨b0, hb0, _, hb⟩⟩
          · rw [g3.ext.ρ b hb]; exact q4 b hb.1
          · omega
          · rw [hb]; exact q4 b0 hb0.1
        · rw [hEl.ρ b h]; exact q4 b h
      · rw [hinC] at hp hq; exact hI.inj p q z z' hp hq
    · -- it keeps off what is there
      have hflj : fl = (H j).n := by
        rcases hfl with e | ⟨_, e⟩
        · exact e
        · exact absurd ⟨hhj, so, hso, e⟩ hbj
      subst hflj
      by_cases hjb : j < β
      case neg =>
        have hβ := hI.bat (by omega)
        have hne : β ≠ j := fun e => hbj (e ▸ hβ.1)
        have hmkj : MkI sl j := by
          rcases hN.lo β (by omega) hβ.1.1 hhj (.inl hβ.1) with h | ⟨_, h⟩
          · rw [hβ.2] at h; cases h
          · exact h
        obtain ⟨x0, hx0, hmk0⟩ := hmkj
        have hmkj : MkI sl j := ⟨x0, hx0, hmk0⟩
        rw [hso] at hx0
        cases hx0
        obtain ⟨x', hsv', hm⟩ := hd.mkr j so o hso ho hmk0
        refine (hm (Vr V (H j).n) γ w a (hI.tok hd hN (.refl _)) (fun h => absurd h.2 (Nat.lt_irrefl _))).mono fun v w' hh => ?_
        have hbhi : ∀ i, β ≤ i → i < sl.length → isHp (kd i) → (D i || i == j) = false ∨ MkI sl i := fun i h1 h3 h4 => by
          by_cases e : i = j
          · subst e; exact .inr hmkj
          · rw [hjD i e]; exact hI.bhi i h1 h3 h4
        have hbat : β < sl.length → Bar cx sl kd β ∧ (D β || β == j) = false := fun hb => ⟨(hI.bat hb).1, by rw [hjD β hne]; exact (hI.bat hb).2⟩
        rcases hh with ⟨rfl, hx⟩ | ⟨ob, g, e, rfl, h65, hn', hB, hx⟩
        · refine ⟨V, γ, β, ⟨hI.bm, fun i hi hb => by have := hI.blo i hi hb; simp [this], hbat, hbhi, hI.mr, hI.nw, hI.mkr, fun q hq hb => hI.bq q hq fun i hi hbi hDi => hb i hi hbi (by simp [hDi]), fun b hb => ?_, hI.stp,
            tm_next (B := B) hN hdst hI.tm (.refl V) (fun _ => ?_), fun p x n hp => ?_, fun p q x y hp hq => ?_, by rw [put_defers]; exact hI.df, by rw [put_size]; exact hI.sz, hI.b0⟩⟩
          · rcases hI.nm b hb with h | ⟨i, h5, h6, h7⟩
            · exact .inl h
            · exact .inr ⟨i, h5, by simp [h6], h7⟩
          · rw [hsv']; exact hx.mono (Vr.mono (.refl V) hn1)
          · rw [hinC] at hp; exact hI.vr p x n hp
          · rw [hinC] at hp hq; exact hI.inj p q x y hp hq
        · have hnS : ¬ V.S (H j).n := fun hb => by
            rcases hI.nm _ hb with h | ⟨i, h5, h6, h7, h8, h9⟩
            · have := hd.n_mono (i := 0) (j := j) (Nat.zero_le _) (Nat.le_of_lt hlt)
              omega
            · rcases Nat.lt_trichotomy i j with h | h | h
              · have := hd.n_mono (i := i + 1) (j := j) h (Nat.le_of_lt hlt)
                omega
              · rw [h, hj] at h6; cases h6
              · have := hd.n_mono (i := j + 1) (j := i) h (by omega)
                omega
          have hE := addV_ext (b := (H j).n) (g := w.heap.size) (s := g) (e := e) hnS
          have hE2 : Ext (addV (Vr V (H j).n) (H j).n w.heap.size g e) (Vr (addV V (H j).n w.heap.size g e) (H (j + 1)).n) := ⟨fun b hb => by
            rcases hb with hb | hb
            · exact ⟨.inl hb.1, by have := hb.2; omega⟩
            · exact ⟨.inr hb, by omega⟩, fun _ _ => rfl, fun _ _ => rfl, fun _ _ => rfl⟩
          have hρn : (addV V (H j).n w.heap.size g e).ρ (H j).n = w.heap.size := addV_ρ
          have hSm0 : ∀ b, (addV V (H j).n w.heap.size g e).S b → V.S b ∨ b = (H j).n := fun b hb => hb
          have hSn : (addV V (H j).n w.heap.size g e).S (H j).n := .inr rfl
          generalize addV V (H j).n w.heap.size g e = Vm at hE hE2 hρn hSm0 hSn
          have hβn : (H β).n ≤ (H j).n := hd.n_mono (by omega) (Nat.le_of_lt hlt)
          have hlow : ∀ b, Vm.S b → b < (H β).n → V.S b := fun b hb hn => by
            rcases hSm0 b hb with h | h
            · exact h
            · omega
          have hold : ∀ b, V.S b → (w.alloc ob).heap[V.ρ b]? = w.heap[V.ρ b]? := fun b hb => heap_old w ob (hI.nw b hb).2
          have hnw : ∀ b, Vm.S b → B.w0.heap.size ≤ Vm.ρ b ∧ Vm.ρ b < (w.alloc ob).heap.size := fun b hb => by
            rw [heap_size]
            rcases hSm0 b hb with h | h
            · rw [hE.ρ b h]; have := hI.nw b h; omega
            · subst h; rw [hρn]; have := hI.mr.sz; omega
          have hmr : MR B.w0 (Vr Vm (H β).n) (H β) (w.alloc ob) := by
            refine ⟨fun b hb => ⟨hb.2, (hI.mr.nb b ⟨hlow b hb.1 hb.2, hb.2⟩).2⟩, fun b hb => ?_, fun b b' hb hb' h1 h2 e => ?_, fun b hb => hnw b hb.1, fun k hk => ?_, by rw [heap_size]; have := hI.mr.sz; omega, hI.mr.os, hI.mr.tape, hI.mr.output, hI.mr.ar⟩
            · have hv := hlow b hb.1 hb.2
              exact (hI.mr.bl b ⟨hv, hb.2⟩).mono (Vr.mono hE (Nat.le_refl _)) ⟨hv, hb.2⟩ (hold b hv)
            · have hv := hlow b hb.1 hb.2
              have hv' := hlow b' hb'.1 hb'.2
              have e : Vm.ρ b = Vm.ρ b' := e
              rw [hE.ρ b hv, hE.ρ b' hv'] at e
              exact hI.mr.inj b b' ⟨hv, hb.2⟩ ⟨hv', hb'.2⟩ h1 h2 e
            · rw [heap_old w ob (by have := hI.mr.sz; omega)]; exact hI.mr.old k hk
          refine ⟨Vm, γ, β, ⟨hI.bm, fun i hi hb => by have := hI.blo i hi hb; simp [this], hbat, hbhi, hmr, hnw, fun b hb hn => ?_, fun q hq hb b hbS hbn hbβ => ?_, fun b hb => ?_, hI.stp.trans (h' := H j) (Nat.le_trans hBh (hd.n_mono (Nat.zero_le _) (Nat.le_of_lt hlt))) ⟨hE, fun b hb => ?_, fun k hk _ => heap_old w ob hk, by rw [heap_size]; omega⟩,
            tm_next (B := B) hN hdst hI.tm hE (fun _ => ?_), fun p x n hp => ?_, fun p q x y hp hq => ?_, by rw [put_defers]; exact hI.df, by rw [put_size]; exact hI.sz, hI.b0⟩⟩
          · rcases hSm0 b hb with h | h
            · obtain ⟨m1, ⟨i, m2, m3, mk, m4, m5, m6⟩, m7⟩ := hI.mkr b h hn
              refine ⟨m1, ⟨i, m2, m3, mk, m4, m5, m6.mono (Vr.mono hE (Nat.le_refl _)) ⟨h, by omega⟩ (hold b h)⟩, fun b' hb' e => ?_⟩
              rw [hE.ρ b h] at e
              rcases hSm0 b' hb' with h' | h'
              · rw [hE.ρ b' h'] at e; exact m7 b' h' e
              · subst h'
                rw [hρn] at e
                have := (hI.nw b h).2
                omega
            · subst h
              refine ⟨h65, ⟨j, by omega, hlt, hmkj, rfl, hn', hB.mono hE2 (.inr rfl) rfl⟩, fun b' hb' e => ?_⟩
              rw [hρn] at e
              rcases hSm0 b' hb' with h' | h'
              · rw [hE.ρ b' h'] at e
                have := (hI.nw b' h').2
                omega
              · exact h'
          · have hv := hlow b hbS hbβ
            exact (hI.bq q hq (fun i hi hbi hDi => hb i hi hbi (by simp [hDi])) b hv hbn hbβ).mono (Vr.mono hE (Nat.le_refl _)) ⟨hv, hbn⟩ (hold b hv)
          · rcases hSm0 b hb with h | h
            · rcases hI.nm b h with h | ⟨i, h5, h6, h7⟩
              · exact .inl h
              · exact .inr ⟨i, h5, by simp [h6], h7⟩
            · subst h
              exact .inr ⟨j, hlt, by simp, hhj, Nat.le_refl _, by omega⟩
          · rcases hSm0 b hb with h | h
            · exact .inl h
            · subst h; rw [hρn]
              exact .inr ⟨Nat.le_refl _, .inl (Nat.le_refl _)⟩
          · rw [hsv']; exact hx.mono hE2
          · rw [hinC] at hp
            obtain ⟨q1, ⟨cells, e, q2, q3⟩, q4⟩ := hI.vr p x n hp
            have hsz : γ p < w.heap.size := (Array.getElem?_eq_some_iff.1 q2).1
            refine ⟨q1, ⟨cells, e, by rw [heap_old w ob hsz]; exact q2, q3.mono (Vr.mono hE (Nat.le_refl _))⟩, fun b hb => ?_⟩
            rcases hSm0 b hb with h | h
            · rw [hE.ρ b h]; exact q4 b h
            · subst h; rw [hρn]; omega
          · rw [hinC] at hp hq; exact hI.inj p q x y hp hq
      have hnobar : ∀ q, j ≤ q → q < β → ¬ Bar cx sl kd q := fun q h1 h2 hb => by
        have hDq := hI.blo q h2 hb
        have hne : q ≠ j := fun e => hbj (e ▸ hb)
        rcases hN.hi q (by omega) (by have := hI.bm; omega) hb.1 hhj (.inl hb) with h | ⟨h, _⟩
        · rw [hDq] at h; cases h
        · exact hbj h
      have hch : ∀ b, b < (H j).n → b < 65536 → gH (H β) b = gH (H j) b := hd.chain (Nat.le_of_lt hjb) hI.bm hnobar
      have hch1 : ∀ b, b < (H (j + 1)).n → b < 65536 → gH (H β) b = gH (H (j + 1)) b := hd.chain hjb hI.bm fun q h1 h2 => hnobar q (by omega) h2
      have hbarlt : ∀ i, i < sl.length → Bar cx sl kd i → D i = true → i < j := fun i hi hb hDi => by
        rcases Nat.lt_trichotomy i j with h | h | h
        · exact h
        · exact absurd (h ▸ hb) hbj
        · rcases hN.hi i h hi hb.1 hhj (.inl hb) with h | ⟨h, _⟩
          · rw [hDi] at h; cases h
          · exact absurd h hbj
      have hjβn : (H j).n ≤ (H β).n := hd.n_mono (Nat.le_of_lt hjb) hI.bm
      have h65 : ∀ b, V.S b → b < (H j).n → b < 65536 := fun b hb hn => (hI.mr.nb b ⟨hb, by omega⟩).2
      have hmrj : MR B.w0 (Vr V (H j).n) (H j) w := ⟨fun b hb => ⟨hb.2, h65 b hb.1 hb.2⟩, fun b hb => by
          rw [← hch b hb.2 (h65 b hb.1 hb.2)]; exact hI.bq j (Nat.le_of_lt hlt) hbarlt b hb.1 hb.2 (Nat.lt_of_lt_of_le hb.2 hjβn), fun b b' hb hb' h1 h2 => hI.mr.inj b b' ⟨hb.1, Nat.lt_of_lt_of_le hb.2 hjβn⟩ ⟨hb'.1, Nat.lt_of_lt_of_le hb'.2 hjβn⟩ (by rw [hch b hb.2 (h65 b hb.1 hb.2)]; exact h1) (by rw [hch b' hb'.2 (h65 b' hb'.1 hb'.2)]; exact h2), fun b hb => hI.nw b hb.1, hI.mr.old, hI.mr.sz, hI.mr.os, hI.mr.tape, hI.mr.output, hI.mr.ar⟩
      refine (he B.w0 (Vr V (H j).n) γ w a hmrj (hI.tok hd hN (.refl _))).mono fun v w' ⟨V', g1, g2, g3⟩ => ?_
      have hkeep : ∀ g, g < w.heap.size → w'.heap[g]? = w.heap[g]? := fun g hg => g3.keep g hg fun b hb hf => absurd hb.2 (by omega)
      have hV'n : ∀ b, V'.S b → b < (H (j + 1)).n := fun b hb => (g1.nb b hb).1
      have hboth : ∀ b, V.S b → V'.S b → b < (H j).n := fun b hb hb' => by
        rcases hI.nm b hb with h | ⟨i, h5, h6, h7, h8, h9⟩
        · exact Nat.lt_of_lt_of_le h (hd.n_mono (Nat.zero_le _) (Nat.le_of_lt hlt))
        · rcases Nat.lt_trichotomy i j with h | h | h
          · exact Nat.lt_of_lt_of_le h9 (hd.n_mono (by omega) (Nat.le_of_lt hlt))
          · rw [h, hj] at h6; cases h6
          · have := hV'n b hb'
            have := hd.n_mono (i := j + 1) (j := i) (by omega) (by omega)
            omega
      have hnew : ∀ b, V'.S b → ¬ b < (H j).n → w.heap.size ≤ V'.ρ b ∧ (H j).n ≤ b := fun b hb hn => by
        rcases g3.new b hb with h | ⟨h1, h2 | ⟨b0, h3, h4, _⟩⟩
        · exact absurd h.2 hn
        · exact ⟨h2, h1⟩
        · exact absurd h3.2 (by omega)
      have hold : ∀ b, V'.S b → b < (H j).n → V.S b := fun b hb hn => by
        rcases g3.new b hb with h | ⟨h1, _⟩
        · exact h.1
        · omega
      have hagree : ∀ b, V.S b → V'.S b → V'.ρ b = V.ρ b ∧ V'.σ b = V.σ b ∧ V'.ε b = V.ε b := fun b hb hb' => by
        have hr : (Vr V (H j).n).S b := ⟨hb, hboth b hb hb'⟩
        exact ⟨g3.ext.ρ b hr, g3.ext.σ b hr, g3.ext.ε b hr⟩
      have hEl := mrg_l V V'
      have hEr := mrg_r hagree
      generalize hVm : mrg V V' = Vm at hEl hEr
      have hSm : ∀ b, Vm.S b → V.S b ∨ (¬ V.S b ∧ V'.S b ∧ ¬ b < (H j).n) := fun b hb => by
        by_cases hv : V.S b
        · exact .inl hv
        · have hb' : V.S b ∨ V'.S b := by rw [← hVm] at hb; exact hb
          rcases hb' with h | h
          · exact absurd h hv
          · exact .inr ⟨hv, h, fun hn => hv (hold b h hn)⟩
      have hnw : ∀ b, Vm.S b → B.w0.heap.size ≤ Vm.ρ b ∧ Vm.ρ b < w'.heap.size := fun b hb => by
        rcases hSm b hb with h | ⟨_, h, _⟩
        · rw [hEl.ρ b h]
          exact ⟨(hI.nw b h).1, Nat.lt_of_lt_of_le (hI.nw b h).2 g3.size⟩
        · rw [hEr.ρ b h]; exact g1.nw b h
      have hmr : MR B.w0 (Vr Vm (H β).n) (H β) w' := by
        refine ⟨fun b hb => ⟨hb.2, ?_⟩, fun b hb => ?_, fun b b' hb hb' h1 h2 => ?_, fun b hb => hnw b hb.1, g1.old, g1.sz, g1.os, g1.tape, g1.output, g1.ar⟩
        · rcases hSm b hb.1 with h | ⟨_, h, _⟩
          · exact (hI.mr.nb b ⟨h, hb.2⟩).2
          · exact (g1.nb b h).2
        · rcases hSm b hb.1 with h | ⟨_, h, _⟩
          · exact (hI.mr.bl b ⟨h, hb.2⟩).mono (Vr.mono hEl (Nat.le_refl _)) ⟨h, hb.2⟩ (hkeep _ (hI.nw b h).2)
          · rw [hch1 b (hV'n b h) (g1.nb b h).2]
            exact (g1.bl b h).mono (Vr.into hEr fun b hb => Nat.lt_of_lt_of_le (hV'n b hb) (hd.n_mono (by omega) hI.bm)) h rfl
        · show Vm.ρ b = Vm.ρ b' → b = b'
          rcases hSm b hb.1 with h | ⟨hn, h, hnn⟩
          · rcases hSm b' hb'.1 with h' | ⟨hn', h', hnn'⟩
            · rw [hEl.ρ b h, hEl.ρ b' h']; exact hI.mr.inj b b' ⟨h, hb.2⟩ ⟨h', hb'.2⟩ h1 h2
            · rw [hEl.ρ b h, hEr.ρ b' h']
              have := (hI.nw b h).2
              have := (hnew b' h' hnn').1
              intro e; omega
          · rcases hSm b' hb'.1 with h' | ⟨hn', h', hnn'⟩
            · rw [hEr.ρ b h, hEl.ρ b' h']
              have := (hI.nw b' h').2
              have := (hnew b h hnn).1
              intro e; omega
            · rw [hEr.ρ b h, hEr.ρ b' h']
              rw [hch1 b (hV'n b h) (g1.nb b h).2] at h1
              rw [hch1 b' (hV'n b' h') (g1.nb b' h').2] at h2
              exact g1.inj b b' h h' h1 h2
      have hflB : B.fl = (H j).fl := by rw [hBf, hd.fl j (Nat.le_of_lt hlt)]
      refine ⟨Vm, γ, β, ⟨hI.bm, fun i hi hb => by have := hI.blo i hi hb; simp [this], fun hb => ⟨(hI.bat hb).1, ?_⟩, fun i h1 h3 h4 => ?_, hmr, hnw, fun b hb hn => ?_, fun q hq hb b hbS hbn hbβ => ?_, fun b hb => ?_, ?_,
        tm_next (B := B) hN hdst hI.tm hEl (fun _ => ?_), fun p z n hp => ?_, fun p q z z' hp hq => ?_, by rw [put_defers]; exact hI.df, by rw [put_size]; exact hI.sz, hI.b0⟩⟩
      · rw [hjD β (by omega)]; exact (hI.bat hb).2
      · rw [hjD i (by omega)]; exact hI.bhi i h1 h3 h4
      · rcases hSm b hb with h | ⟨_, h, _⟩
        · obtain ⟨m1, ⟨i, m2, m3, mk, m4, m5, m6⟩, m7⟩ := hI.mkr b h hn
          refine ⟨m1, ⟨i, m2, m3, mk, m4, m5, m6.mono (Vr.mono hEl (Nat.le_refl _)) ⟨h, by omega⟩ (hkeep _ (hI.nw b h).2)⟩, fun b' hb' e => ?_⟩
          rw [hEl.ρ b h] at e
          rcases hSm b' hb' with h' | ⟨_, h', hnn'⟩
          · rw [hEl.ρ b' h'] at e; exact m7 b' h' e
          · rw [hEr.ρ b' h'] at e
            have := (hI.nw b h).2
            have := (hnew b' h' hnn').1
            omega
        · have := hV'n b h
          have := hd.n_mono (i := j + 1) (j := β) hjb hI.bm
          omega
      · rcases hSm b hbS with h | ⟨_, h, hnn⟩
        · exact (hI.bq q hq (fun i hi hbi hDi => hb i hi hbi (by simp [hDi])) b h hbn hbβ).mono (Vr.mono hEl (Nat.le_refl _)) ⟨h, hbn⟩ (hkeep _ (hI.nw b h).2)
        · have hjq : j + 1 ≤ q := by
            rcases Nat.lt_or_ge j q with h' | h'
            · exact h'
            · have := hd.n_mono (i := q) (j := j) h' (Nat.le_of_lt hlt); omega
          rw [hch1 b (hV'n b h) (g1.nb b h).2]
          exact (g1.bl b h).mono (Vr.into hEr fun b hb => Nat.lt_of_lt_of_le (hV'n b hb) (hd.n_mono hjq hq)) h rfl
      · rcases hSm b hb with h | ⟨_, h, hnn⟩
        · rcases hI.nm b h with h | ⟨i, h5, h6, h7⟩
          · exact .inl h
          · exact .inr ⟨i, h5, by simp [h6], h7⟩
        · exact .inr ⟨j, hlt, by simp, hhj, by omega, hV'n b h⟩
      · refine hI.stp.trans (h' := H j) (Nat.le_trans hBh (hd.n_mono (Nat.zero_le _) (Nat.le_of_lt hlt))) ⟨hEl, fun b hb => ?_, fun g hg _ => hkeep g hg, g3.size⟩
        rcases hSm b hb with h | ⟨_, h, hnn⟩
        · exact .inl h
        · rw [hEr.ρ b h]
          exact .inr ⟨(hnew b h hnn).2, .inl (hnew b h hnn).1⟩
      · rw [hsv]
        exact g2.mono (Vr.into hEr hV'n)
      · rw [hinC] at hp
        obtain ⟨q1, ⟨cells, e, q2, q3⟩, q4⟩ := hI.vr p z n hp
        have hsz : γ p < w.heap.size := (Array.getElem?_eq_some_iff.1 q2).1
        refine ⟨q1, ⟨cells, e, by rw [hkeep _ hsz]; exact q2, q3.mono (Vr.mono hEl (Nat.le_refl _))⟩, fun b hb => ?_⟩
        rcases hSm b hb with h | ⟨_, h, hnn⟩
        · rw [hEl.ρ b h]; exact q4 b h
        · rw [hEr.ρ b h]; have := (hnew b h hnn).1; omega
      · rw [hinC] at hp hq; exact hI.inj p q z z' hp hq
end
end
end Go.M
