/-
  The memory machine: an executor for the translated code, and that it does what the code does.
  No condition: definitions and lemmas.
-/
import Derived.Test.YtgnhijkjlebcmaaGreatMemE
import Derived.Below
import Derived.KernelRfl
import Derived.Laws.Rows
set_option linter.all false
set_option maxHeartbeats 2000000
namespace Go.M
open Go
open Go.Eng (SOp SOper SCode stripOper stripOps stripCode)
noncomputable section
variable [Ctxt]
section
variable {P : Program} {cx : Cx} {ops : Array Oper} {nt : Nat}
theorem HLe.kd {h h' : Hp} {kd : Kd} {ol : OL} (hk : KdOk cx h ol kd) (hfn : h.fl ≤ h.n) (hl : HLe (kdF h kd) h h') : HLe h.fl h h' := (kd_fl hk hfn hl).1
theorem draw_run (hcl : CallsOk P cx.cl) (al : List (Nat × Nat)) : ∀ (lo : List Oper) {sl : List SOper} {en : En} {fr : FX} {l : Loc} {h : Hp} {k : Kc} {r : List Prop} {kn : En → FR}, stripOps P ops true lo = some sl → (sl.all fun o => okD nt cx.PV true o) = true →
    (exOps cx kn (drawL al cx.PV cx.FL sl) en).f fr l h k = some r → Wf cx en l → h.fl ≤ h.n → ∃ (en' : En) (l' : Loc) (h' : Hp) (kd : Nat → Kd) (sv : Nat → SV) (var : Nat → Option (Nat × X)) (S : Nat → Sta) (H : Nat → Hp), (kn en').f fr l' h' k = some r ∧ Wf cx en' l' ∧ HLe h.fl h h' ∧ H 0 = h ∧ H sl.length = h' ∧ S 0 = sta cx en fr l ∧ S sl.length = sta cx en' fr l' ∧
      (∀ (j : Nat) so, sl[j]? = some so → ∃ o, lo[j]? = some o ∧ stripOper P ops true o = some so) ∧
      (∀ (j : Nat) so, sl[j]? = some so → (S (j + 1)).le ((S j).upd so.dst (sv j) (var j))) ∧ (∀ j, j < sl.length → HLe (kdF (H j) (kd j)) (H j) (H (j + 1)) ∧ HLe (H (j + 1)).fl (H (j + 1)) h') ∧ (∀ j, j ≤ sl.length → (H j).fl ≤ (H j).n ∧ (H j).fl = h.fl) ∧
      (∀ (j : Nat) so, sl[j]? = some so → KdOk cx (H j) ⟨so.dst, so.op, so.guard, inFL cx.FL so, some (vpOf al cx.PV so.op)⟩ (kd j)) ∧
      (∀ (j : Nat) so, sl[j]? = some so → SvOk ⟨so.dst, so.op, so.guard, inFL cx.FL so, some (vpOf al cx.PV so.op)⟩ (kd j) (sv j)) ∧
      (∀ (j : Nat) so o, sl[j]? = some so → lo[j]? = some o → ((∀ p ∈ (H (j + 1)).fa, p) → EffOk P ops o (looks so) (S j) (H j) (H (j + 1)) (kd j) (sv j) (var j)) ∧ (isMk so.op = true → EffMk P ops o (looks so) (S j) (H j) (H (j + 1)) (sv j)))
  | [], sl, en, fr, l, h, k, r, kn, hs, _, e, hw, hfn => by
    simp only [stripOps, Option.some.injEq] at hs
    subst hs
    exact ⟨en, l, h, fun _ => .pure [], fun _ => .val xU, fun _ => none, fun _ => sta cx en fr l, fun _ => h, e, hw, .refl _ _, rfl, rfl, rfl, rfl, fun j so hj => by simp at hj, fun j so hj => by simp at hj, fun j hj => by simp at hj, fun j _ => ⟨hfn, rfl⟩, fun j so hj => by simp at hj, fun j so hj => by simp at hj, fun j so o hj => by simp at hj⟩
  | o :: lo, sl, en, fr, l, h, k, r, kn, hs, hd, e, hw, hfn => by
    obtain ⟨so, sl', rfl, hso, hsl⟩ := stripOps_cons hs
    simp only [List.all_cons, Bool.and_eq_true] at hd
    have e1 : (plan so.op cx ⟨so.dst, so.op, so.guard, inFL cx.FL so, some (vpOf al cx.PV so.op)⟩ en (exOps cx kn (drawL al cx.PV cx.FL sl'))).f fr l h k = some r := e
    have hL := lnk_of (cx := cx) (flo := inFL cx.FL so) (vp := some (vpOf al cx.PV so.op)) hso hd.1
    obtain ⟨en1, l1, h1, kd0, sv0, var0, g1, g2, g3, g4, g5, gS, g6, gM⟩ := plan_okM (ol := ⟨so.dst, so.op, so.guard, inFL cx.FL so, some (vpOf al cx.PV so.op)⟩) hcl hL hw hfn e1
    have g4' := (kd_fl g5 hfn g4).1
    obtain ⟨en2, l2, h2, kd, sv, var, S, H, q1, q2, q3, q4, q5, q6, q7, q8, q9, q10, q11, q12, qS, q13⟩ := draw_run hcl al lo hsl hd.2 g1 g2 (g4'.fln hfn)
    refine ⟨en2, l2, h2, fun j => match j with | 0 => kd0 | j + 1 => kd j, fun j => match j with | 0 => sv0 | j + 1 => sv j, fun j => match j with | 0 => var0 | j + 1 => var j, fun j => match j with | 0 => sta cx en fr l | j + 1 => S j, fun j => match j with | 0 => h | j + 1 => H j,
      q1, q2, g4'.tr q3, rfl, q5, rfl, q7, fun j so' hj => ?_, fun j so' hj => ?_, fun j hj => ?_, fun j hj => ?_, fun j so' hj => ?_, fun j so' hj => ?_, fun j so' o' hj ho => ?_⟩
    · cases j with
      | zero => simp at hj; subst hj; exact ⟨o, rfl, hso⟩
      | succ j => simpa using q8 j so' (by simpa using hj)
    · cases j with
      | zero =>
        simp at hj; subst hj
        show (S 0).le _
        rw [q6]; exact g3
      | succ j => exact q9 j so' (by simpa using hj)
    · cases j with
      | zero =>
        show HLe (kdF h kd0) h (H 0) ∧ HLe (H 0).fl (H 0) h2
        rw [q4]; exact ⟨g4, q3⟩
      | succ j => exact q10 j (by simpa using hj)
    · cases j with
      | zero => exact ⟨hfn, rfl⟩
      | succ j =>
        obtain ⟨a1, a2⟩ := q11 j (by simpa using hj)
        exact ⟨a1, a2.trans g4'.fe⟩
    · cases j with
      | zero => simp at hj; subst hj; exact g5
      | succ j => exact q12 j so' (by simpa using hj)
    · cases j with
      | zero => simp at hj; subst hj; exact gS
      | succ j => exact qS j so' (by simpa using hj)
    · cases j with
      | zero =>
        simp at hj ho; subst hj; subst ho
        refine ⟨fun hf => ?_, fun hm => ?_⟩
        · have hf : ∀ p ∈ (H 0).fa, p := hf
          show EffOk P ops o (looks so) (sta cx en fr l) h (H 0) kd0 sv0 var0
          rw [q4] at hf ⊢
          exact g6 hf
        · show EffMk P ops o (looks so) (sta cx en fr l) h (H 0) sv0
          rw [q4]
          exact gM hm
      | succ j => exact q13 j so' o' (by simpa using hj) (by simpa using ho)
theorem stripOps_get {draw : Bool} : ∀ (l : List Oper) (sl : List SOper), stripOps P ops draw l = some sl → l.length = sl.length ∧ ∀ (j : Nat) (o : Oper), l[j]? = some o → ∃ so, sl[j]? = some so ∧ stripOper P ops draw o = some so
  | [], sl, hs => by
    simp only [stripOps, Option.some.injEq] at hs
    subst hs
    exact ⟨rfl, fun j o h => by simp at h⟩
  | o :: l, sl, hs => by
    obtain ⟨so, sl', rfl, h1, h2⟩ := stripOps_cons hs
    obtain ⟨h3, h4⟩ := stripOps_get l sl' h2
    refine ⟨by simp [h3], fun j o' h => ?_⟩
    cases j with
    | zero => simp at h; subst h; exact ⟨so, rfl, h1⟩
    | succ j => simpa using h4 j o' (by simpa using h)
theorem stripOper_after {o : Oper} {so : SOper} (hs : stripOper P ops true o = some so) :
    so.after = o.after.toList.filterMap fun e => match e.ground with | .textOnly _ => none | .gcOnly _ => none | _ => some e.on := by
  unfold stripOper at hs
  split at hs
  · split at hs
    · cases hs; rfl
    · split at hs
      · cases hs; rfl
      · cases hs
  · cases hs
theorem after_iff {o : Oper} {so : SOper} (hs : stripOper P ops true o = some so) (D : Nat → Prop) :
    (∀ e ∈ o.after, Region.binds .any e = true → D e.on) ↔ ∀ i ∈ so.after, D i := by
  rw [stripOper_after hs]
  constructor
  · intro h i hi
    rw [List.mem_filterMap] at hi
    obtain ⟨e, he, h1⟩ := hi
    have hem : e ∈ o.after := by simpa using he
    have : Region.binds .any e = true ∧ e.on = i := by
      unfold Region.binds
      split at h1 <;> simp_all
    rw [← this.2]; exact h e hem this.1
  · intro h e he hb
    refine h e.on ?_
    rw [List.mem_filterMap]
    refine ⟨e, by simpa using he, ?_⟩
    unfold Region.binds at hb
    split at hb <;> simp_all
theorem countP_same {D : Nat → Bool} {j : Nat} : ∀ (l : List Nat), j ∉ l → l.countP (fun i => !(D i || i == j)) = l.countP (fun i => !(D i))
  | [], _ => rfl
  | x :: l, h => by
    simp only [List.mem_cons, not_or] at h
    have e : (D x || x == j) = D x := by simp [Ne.symm h.1]
    rw [List.countP_cons, List.countP_cons, countP_same l h.2, e]
theorem countP_setD {D : Nat → Bool} {j : Nat} (hj : D j = false) : ∀ (l : List Nat), l.Nodup → j ∈ l → l.countP (fun i => !(D i || i == j)) + 1 = l.countP (fun i => !(D i))
  | [], _, h => by simp at h
  | x :: l, hn, h => by
    rw [List.nodup_cons] at hn
    rcases List.mem_cons.1 h with rfl | h
    · rw [List.countP_cons, List.countP_cons, countP_same l hn.1]
      simp [hj]
    · have hx : x ≠ j := fun e => hn.1 (e ▸ h)
      have e : (D x || x == j) = D x := by simp [hx]
      have := countP_setD hj l hn.2 h
      rw [List.countP_cons, List.countP_cons, e]
      omega
def ofL (listed : Array Bool) : Nat → Bool := fun i => listed.getD i false
theorem ofL_set {listed : Array Bool} {j : Nat} (hj : j < listed.size) : ofL (listed.setIfInBounds j true) = fun i => ofL listed i || i == j := by
  funext i
  unfold ofL
  by_cases e : i = j
  · subst e; simp [hj]
  · rw [getD_set_ne false (Ne.symm e)]
    have : (i == j) = false := by simp [e]
    rw [this, Bool.or_false]
theorem getD_true_false {listed : Array Bool} {j : Nat} (hj : j < listed.size) : listed.getD j true = listed.getD j false := by
  simp [hj]
section
variable {sl : List SOper} {kd : Nat → Kd} {sv : Nat → SV} {var : Nat → Option (Nat × X)} {S : Nat → Sta} {H : Nat → Hp}
theorem wpAny_inv (hs : stripOps P ops true ops.toList = some sl) (hd : Dat P cx ops sl nt kd sv var S H) {B : Bs} (hBn : B.nt = nt) (hBf : B.fl = (H 0).fl) (hBh : B.h.n ≤ (H 0).n) {K : Exit → Act → World → Prop}
    (hend : ∀ D a w V γ β, (∀ i, i < sl.length → D i = true) → Inv cx sl kd sv var S H B D a w V γ β → K .normal a w) :
    ∀ (fuel : Nat) (listed : Array Bool) (a : Act) (w : World), listed.size = ops.size → Closed sl (ofL listed) → (List.range ops.size).countP (fun i => !(ofL listed i)) ≤ fuel →
      (∃ V γ β, Inv cx sl kd sv var S H B (ofL listed) a w V γ β) → wpAny P .any ops K fuel listed a w := by
  obtain ⟨hl, hget⟩ := stripOps_get ops.toList sl hs
  have hl : ops.size = sl.length := by simpa using hl
  have hokA := (okDraw_pairs hd.ok).1
  have hready : ∀ (listed : Array Bool) (j : Nat) (o : Oper) (so : SOper), listed.size = ops.size → ops[j]? = some o → sl[j]? = some so → stripOper P ops true o = some so → ofL listed j = false →
      (∀ e ∈ so.after, ofL listed e = true) → j ∈ Region.ready .any ops listed := fun listed j o so hsz ho hso h1 hj he => by
    have hlt : j < ops.size := (Array.getElem?_eq_some_iff.1 ho).1
    rw [mem_ready]
    refine ⟨by rw [getD_true_false (by omega)]; exact hj, o, ho, ?_⟩
    exact (after_iff h1 fun i => ofL listed i = true).2 he
  have hall : ∀ (listed : Array Bool), listed.size = ops.size → Region.ready .any ops listed = [] → ∀ i, i < ops.size → ofL listed i = true := fun listed hsz hr i => by
    induction i using Nat.strongRecOn with
    | _ i ih =>
      intro hi
      apply Classical.byContradiction
      intro hne
      have hne' : ofL listed i = false := by simpa using hne
      obtain ⟨so, hso, h1⟩ := hget i ops[i] (by simp [hi])
      have := hready listed i ops[i] so hsz (by simp [hi]) hso h1 hne' fun e he => by
        have := hokA i so hso e he
        exact ih e (by omega) (by omega)
      rw [hr] at this
      simp at this
  intro fuel
  induction fuel with
  | zero =>
    intro listed a w hsz hc hf hI
    have hdone : ∀ i, i < ops.size → ofL listed i = true := fun i hi => by
      have h0 : (List.range ops.size).countP (fun i => !(ofL listed i)) = 0 := by omega
      rw [List.countP_eq_zero] at h0
      have := h0 i (by simpa using hi)
      simpa using this
    obtain ⟨V, γ, β, hI⟩ := hI
    refine ⟨?_, hend _ a w V γ β (fun i hi => hdone i (by omega)) hI⟩
    apply List.eq_nil_iff_forall_not_mem.2
    intro j hj
    rw [mem_ready] at hj
    obtain ⟨h1, o, ho, _⟩ := hj
    have hlt : j < ops.size := (Array.getElem?_eq_some_iff.1 ho).1
    rw [getD_true_false (by omega)] at h1
    have := hdone j hlt
    unfold ofL at this
    rw [h1] at this; cases this
  | succ fuel ih =>
    intro listed a w hsz hc hf hI
    obtain ⟨V, γ, β, hI⟩ := hI
    refine ⟨fun hr => hend _ a w V γ β (fun i hi => hall listed hsz hr i (by omega)) hI, fun j hj => ?_⟩
    rw [mem_ready] at hj
    obtain ⟨h1, o, ho, hb⟩ := hj
    have hlt : j < ops.size := (Array.getElem?_eq_some_iff.1 ho).1
    obtain ⟨so, hso, hs1⟩ := hget j o (by simpa using ho)
    have hjr := (after_iff hs1 fun i => ofL listed i = true).1 hb
    have hj0 : ofL listed j = false := by rw [getD_true_false (by omega)] at h1; exact h1
    have hN := hd.next hc hso hj0 hjr
    have hgw := inv_step hd hBn hBf hBh hso ho hs1 hj0 hc hN hI (wpAny P .any ops K fuel (listed.setIfInBounds j true)) K fun v w' ⟨V', γ', β', hI'⟩ => by
      have e := ofL_set (listed := listed) (j := j) (by omega)
      refine ih _ _ w' (by simp [hsz]) ?_ ?_ ⟨V', γ', β', by rw [e]; exact hI'⟩
      · rw [e]
        intro i o' hi ho' x hx
        simp only [Bool.or_eq_true, beq_iff_eq] at hi
        rcases hi with hi | rfl
        · simp [hc i o' hi ho' x hx]
        · rw [hso] at ho'; cases ho'
          simp [hjr x hx]
      · rw [e]
        have := countP_setD hj0 (List.range ops.size) List.nodup_range (by simpa using hlt)
        show (List.range ops.size).countP (fun i => !(ofL listed i || i == j)) ≤ fuel
        omega
    unfold wpOp
    rw [ho]
    simp only
    by_cases hwd : Region.wanted o (yielded ops a.tmps) = true
    · rw [if_pos hwd] at hgw ⊢; exact .inl hgw
    · rw [if_neg hwd] at hgw ⊢; exact hgw
end
theorem draw_ok (hcl : CallsOk P cx.cl) : DrawOk P cx nt := by
  intro ops sl en fr l h k r kn hs hokd hok e hw hA0 hfn
  obtain ⟨en', l', h', kd, sv, var, S, H, q1, q2, q3, q4, q5, q6, q7, q8, q9, q10, q11, q12, qS, q13⟩ := draw_run hcl _ ops.toList hs hokd e hw hfn
  refine ⟨en', l', h', q1, q2, q3, fun hfa B a w K hBf hBh hBn hA hK => ?_⟩
  have hd : Dat P cx ops sl nt kd sv var S H := by
    refine ⟨fun j so hso => ?_, fun j so hso => ?_, hok, q9, fun j hj => (q10 j hj).1, fun j hj => (q11 j hj).1, fun j hj => by rw [(q11 j hj).2, q4], q12, qS, fun k p off c hk => ?_, fun j so o hso ho => ?_, fun j so o hso ho hm => ?_⟩
    · obtain ⟨o, h1, h2⟩ := q8 j so hso
      exact ⟨o, by simpa using h1, h2⟩
    · exact List.all_eq_true.1 hokd so (List.mem_iff_getElem?.2 ⟨j, hso⟩)
    · rw [q6] at hk
      have hk : staT cx en fr l k = some (.ptr p off c) := hk
      exact staT_ptr hk (by rw [hA0]; rfl)
    · have hj : j < sl.length := (List.getElem?_eq_some_iff.1 hso).1
      exact (q13 j so o hso (by simpa using ho)).1 fun p hp => hfa p ((q10 j hj).2.fa p hp)
    · exact (q13 j so o hso (by simpa using ho)).2 hm
  obtain ⟨V, γ, hSR⟩ := hA
  have hD0 : ofL (Array.replicate ops.size false) = fun _ => false := by
    funext i
    unfold ofL
    rcases Nat.lt_or_ge i ops.size with h | h <;> simp [h]
  have hS0 : S 0 = sta cx en fr l := q6
  have hVn : ∀ b, V.S b → b < (H 0).n := fun b hb => by rw [q4]; exact (hSR.mr.nb b hb).1
  have hVr : ∀ n, (H 0).n ≤ n → Ext V (Vr V n) := fun n hn => Vr.into (.refl V) fun b hb => Nat.lt_of_lt_of_le (hVn b hb) hn
  obtain ⟨β, c2, c3, c4⟩ : ∃ β, β ≤ sl.length ∧ (∀ q, q < β → ¬ Bar cx sl kd q) ∧ (β < sl.length → Bar cx sl kd β) := by
    by_cases hex : ∃ q, q < sl.length ∧ Bar cx sl kd q
    · have least : ∀ n, (∃ q, q ≤ n ∧ q < sl.length ∧ Bar cx sl kd q) → ∃ q, q < sl.length ∧ Bar cx sl kd q ∧ ∀ q', q' < q → ¬ Bar cx sl kd q' := by
        intro n
        induction n with
        | zero => rintro ⟨q, h2, h3, h4⟩; exact ⟨q, h3, h4, fun q' h5 => by omega⟩
        | succ n ih =>
          rintro ⟨q, h2, h3, h4⟩
          by_cases hh : ∃ q, q ≤ n ∧ q < sl.length ∧ Bar cx sl kd q
          · exact ih hh
          · exact ⟨q, h3, h4, fun q' h6 hb => hh ⟨q', by omega, by omega, hb⟩⟩
      obtain ⟨q, h2, h3⟩ := hex
      obtain ⟨q, d2, d3, d4⟩ := least q ⟨q, Nat.le_refl _, h2, h3⟩
      exact ⟨q, Nat.le_of_lt d2, d4, fun _ => d3⟩
    · exact ⟨sl.length, Nat.le_refl _, fun q h2 hb => hex ⟨q, h2, hb⟩, fun h => absurd h (Nat.lt_irrefl _)⟩
  have hch : ∀ b, V.S b → gH (H β) b = gH (H 0) b := fun b hb => hd.chain (Nat.zero_le _) c2 (fun q _ h2 => c3 q h2) b (hVn b hb) (hSR.mr.nb b hb).2
  have hg0 : ∀ b, gH (H 0) b = gH h b := fun b => by rw [q4]
  have hmr : MR B.w0 V (H β) w := by
    have hm := hSR.mr
    exact ⟨fun b hb => ⟨Nat.lt_of_lt_of_le (hVn b hb) (hd.n_mono (Nat.zero_le _) c2), (hm.nb b hb).2⟩, fun b hb => by rw [hch b hb, hg0]; exact hm.bl b hb, fun b b' hb hb' h1 h2 => hm.inj b b' hb hb' (by rw [← hg0, ← hch b hb]; exact h1) (by rw [← hg0, ← hch b' hb']; exact h2), hm.nw, hm.old, hm.sz, hm.os, hm.tape, hm.output, hm.ar⟩
  refine wpAny_inv hs hd hBn (by rw [q4]; exact hBf) (by rw [q4]; exact hBh.n) ?_ ops.size _ a w (by simp) ?_ ?_ ⟨V, γ, β, ?_⟩
  · intro D a' w' V' γ' β' hall hI
    refine hK a' w' ⟨V', γ', ?_⟩
    have hβ : β' = sl.length := by
      rcases Nat.lt_or_ge β' sl.length with h | h
      · have := hI.bat h
        rw [hall β' h] at this
        exact absurd this.2 (by simp)
      · have := hI.bm; omega
    have hmr' : MR B.w0 V' (H sl.length) w' := by
      have hm := hI.mr
      have hlow : ∀ b, V'.S b → b < (H sl.length).n := fun b hb => by
        rcases Nat.lt_or_ge b (H sl.length).n with h | h
        · exact h
        · obtain ⟨_, ⟨i, m2, m3, _⟩, _⟩ := hI.mkr b hb (by rw [hβ]; exact h)
          omega
      rw [hβ] at hm
      exact ⟨fun b hb => hm.nb b ⟨hb, hlow b hb⟩, fun b hb => (hm.bl b ⟨hb, hlow b hb⟩).mono (Vr.ext V' _) ⟨hb, hlow b hb⟩ rfl, fun b b' hb hb' => hm.inj b b' ⟨hb, hlow b hb⟩ ⟨hb', hlow b' hb'⟩, hI.nw, hm.old, hm.sz, hm.os, hm.tape, hm.output, hm.ar⟩
    rw [q5] at hmr'
    have rdT : ∀ k, FD (uT sl sv H) D (t0 S H) sl.length k = FD (uT sl sv H) (fun _ => true) (t0 S H) sl.length k := fun k => FD_read fun i hi _ => hall i hi
    have rdC : ∀ k, FD (uC var H) D (c0 S H) sl.length k = FD (uC var H) (fun _ => true) (c0 S H) sl.length k := fun k => FD_read fun i hi _ => hall i hi
    refine ⟨hmr', hI.stp, fun k v hk => ?_, fun p x hp => ?_, fun p q x y hp hq => ?_, hI.df, hI.sz, hI.b0⟩
    · rw [← q7] at hk
      obtain ⟨n, hn⟩ := hd.S_T (Nat.le_refl _) hk
      exact (hI.tm k v n (by rw [rdT]; exact hn)).mono (Vr.ext V' n)
    · rw [← q7] at hp
      obtain ⟨n, hn⟩ := hd.S_C (Nat.le_refl _) hp
      obtain ⟨h1, ⟨cells, e, h2, h3⟩, h4⟩ := hI.vr p x n (by rw [rdC]; exact hn)
      exact ⟨h1, ⟨cells, e, h2, h3.mono (Vr.ext V' n)⟩, h4⟩
    · rw [← q7] at hp hq
      obtain ⟨n, hn⟩ := hd.S_C (Nat.le_refl _) hp
      obtain ⟨n', hn'⟩ := hd.S_C (Nat.le_refl _) hq
      exact hI.inj p q _ _ (by rw [rdC]; exact hn) (by rw [rdC]; exact hn')
  · rw [hD0]; intro i o hi; cases hi
  · exact Nat.le_trans List.countP_le_length (by simp)
  · rw [hD0]
    have hVβ : ∀ b, V.S b → b < (H β).n := fun b hb => Nat.lt_of_lt_of_le (hVn b hb) (hd.n_mono (Nat.zero_le _) c2)
    refine ⟨c2, fun j hj hb => absurd hb (c3 j hj), fun hb => ⟨c4 hb, rfl⟩, fun _ _ _ _ => .inl rfl, ⟨fun b hb => hmr.nb b hb.1, fun b hb => (hmr.bl b hb.1).mono (Vr.into (.refl V) hVβ) hb.1 rfl, fun b b' hb hb' => hmr.inj b b' hb.1 hb'.1, fun b hb => hmr.nw b hb.1, hmr.old, hmr.sz, hmr.os, hmr.tape, hmr.output, hmr.ar⟩, hmr.nw, fun b hb hn => absurd (hVβ b hb) (by omega), fun q hq _ b hb hbn _ => ?_, fun b hb => .inl (hVn b hb), hSR.stp, fun k v n hk => ?_, fun p x n hp => ?_, fun p q x y hp hq => ?_, hSR.df, hSR.sz, hSR.b0⟩
    · exact (hmr.bl b hb).mono (hVr _ (hd.n_mono (Nat.zero_le _) hq)) hb rfl
    · rw [FD_none] at hk
      unfold t0 at hk
      rw [hS0] at hk
      simp only [Option.map_eq_some_iff, Prod.mk.injEq] at hk
      obtain ⟨v', h1, rfl, rfl⟩ := hk
      exact (hSR.tm k _ h1).mono (hVr _ (Nat.le_refl _))
    · rw [FD_none] at hp
      unfold c0 at hp
      rw [hS0] at hp
      simp only [Option.map_eq_some_iff, Prod.mk.injEq] at hp
      obtain ⟨v', h1, rfl, rfl⟩ := hp
      obtain ⟨h2, ⟨cells, e, h3, h4⟩, h5⟩ := hSR.vr p _ h1
      exact ⟨h2, ⟨cells, e, h3, h4.mono (hVr _ (Nat.le_refl _))⟩, h5⟩
    · rw [FD_none] at hp hq
      unfold c0 at hp hq
      rw [hS0] at hp hq
      simp only [Option.map_eq_some_iff] at hp hq
      obtain ⟨v', h1, _⟩ := hp
      obtain ⟨v'', h2, _⟩ := hq
      exact hSR.inj p q _ _ h1 h2
theorem cl_ok {code : Nat → Option Fun} (hc : ∀ g F, code g = some F → FnM P g F) (l : Nat) : CallsOk P (clAt code l) := clAt_ok (fun cx nt h => draw_ok h) hc l
end
end
end Go.M
namespace Go.M
open Go
noncomputable section
variable [Ctxt]
def endK : Kx := fun x h => cndR (Nat.beq x.n 33) (some h.fa) none
def allP (l : List Prop) : Prop := @List.rec Prop (fun _ => Prop) True (fun p _ ih => p ∧ ih) l
def holdsR (r : R) : Prop := @Option.rec (List Prop) (fun _ => Prop) False (fun l => allP l) r
theorem allP_mem : ∀ {l : List Prop}, allP l → ∀ p ∈ l, p
  | [], _, p, hp => by simp at hp
  | q :: l, h, p, hp => by
    have h' : q ∧ allP l := h
    rcases List.mem_cons.1 hp with rfl | hp
    · exact h'.1
    · exact allP_mem h'.2 p hp
theorem holdsR_some {r : R} (h : holdsR r) : ∃ l, r = some l ∧ ∀ p ∈ l, p := by
  cases r with
  | none => exact h.elim
  | some l => exact ⟨l, rfl, allP_mem h⟩
def Vz : Vw := ⟨fun _ => False, fun _ => 0, fun _ => 0, fun _ => 0⟩
theorem top {P : Program} {f : FuncId} {fc : FC} (hf : FcOk P f fc) {xs : List X} {q : List X} (hr : holdsR (fc.f xs (h0 q) endK)) {vals : Array Value} (hv : denL Vz xs vals.toList) (w : World) (hΦ : Ctxt.Φ w) :
    Calls P f vals w fun e w' => e = .returned (.bool true) ∧ Go.RowKit.Below w.heap.size w w' := by
  obtain ⟨l, e, hl⟩ := holdsR_some hr
  obtain ⟨x, h', e1, _, h3⟩ := hf xs (h0 q) endK l (Nat.le_refl _) e
  obtain ⟨t, e2⟩ := cndR_t (show cndR (Nat.beq x.n 33) (some h'.fa) none = some l from e1)
  have e2 : h'.fa = l := Option.some.inj e2
  have hm : MR w Vz (h0 q) w := ⟨fun b hb => hb.elim, fun b hb => hb.elim, fun b b' hb => hb.elim, fun b hb => hb.elim, fun _ _ => rfl, Nat.le_refl _, rfl, rfl, rfl, hΦ⟩
  obtain ⟨_, hc⟩ := h3 (by rw [e2]; exact hl) w Vz w vals hm hv
  refine hc.mono fun e w' ⟨v, V', he, h4, h5, h6⟩ => ⟨?_, h4.os, h4.tape, h4.output, h4.sz, fun k hk => h4.old k hk⟩
  rw [he, den_boolT (beqT t) h5]
def fcT : FC := ⟨fun xs h k => rcL xs (k xT h) fun _ _ => none⟩
theorem fcT_ok {P : Program} {f : FuncId} (hE : Enters P f) (hc : ∀ w, Calls P f #[] w fun e w' => e = .returned (.bool true) ∧ Go.RowKit.Below w.heap.size w w') : FcOk P f fcT := fun xs h k r _ e => by
  cases xs with
  | cons x xs => cases e
  | nil =>
    refine ⟨xT, h, e, .refl _ _, fun _ w0 V w vals hm hv => ⟨hE, ?_⟩⟩
    have hv : vals = #[] := by
      have := denL_nil.1 hv
      exact Array.toList_inj.1 (by simpa using this)
    subst hv
    refine (hc w).mono fun e w' ⟨he, hb⟩ => ⟨.bool true, V, he, ?_, den_xT, ⟨.refl V, fun b hb => .inl hb, fun g hg _ => hb.block g hg, hb.size⟩⟩
    exact ⟨hm.nb, fun b hb' => (hm.bl b hb').world (hb.block _ (hm.nw b hb').2), hm.inj, fun b hb' => ⟨(hm.nw b hb').1, Nat.lt_of_lt_of_le (hm.nw b hb').2 hb.size⟩, fun g hg => by rw [hb.block g (Nat.lt_of_lt_of_le hg hm.sz)]; exact hm.old g hg, Nat.le_trans hm.sz hb.size, by rw [hb.os, hm.os], by rw [hb.tape, hm.tape], by rw [hb.output, hm.output], hm.ar⟩
def clH (cl : Nat → FC) (f : Nat) (c : FC) (g : Nat) : FC := cnd (Nat.beq g f) c (cl g)
theorem clH_ok {P : Program} {cl : Nat → FC} {f : Nat} {c : FC} (h : CallsOk P cl) (hc : FcOk P f c) : CallsOk P (clH cl f c) := fun g => by
  show FcOk P g (cnd (Nat.beq g f) c (cl g))
  cases hb : Nat.beq g f with
  | false => exact h g
  | true => rw [beqT hb]; exact hc
theorem FnM.enters {P : Program} {f : FuncId} {F : Fun} (h : FnM P f F) : Enters P f := by
  obtain ⟨⟨fn, c, h1, h2, h3, _⟩, _⟩ := h
  exact ⟨fn, h1, h2, by rw [h3]; rfl⟩
theorem law_ok {P : Program} {cl : Nat → FC} {f : Nat} {F : Fun} (h : CallsOk P cl) (hF : FnM P f F) : FcOk P f (exF cl F) := exF_ok h (fun cx nt hcx => draw_ok (hcx ▸ h)) hF
end
end Go.M
namespace Go.M
open Go
variable [Ctxt]
theorem dS {q : IntKind} {b : Int} : dvX ⟨13, [], .int q b⟩ = some (.int q b) := by kernel_rfl
theorem dN {N m : Nat} (h : N = 32 * m) : dvX ⟨N, [], oZ⟩ = some (.int .i64 (m : Int)) := by
  unfold dvX
  have h1 : Nat.land N 31 = 0 := by rw [land31]; omega
  have h2 : Nat.shiftRight N 5 = m := by rw [shr]; show N / 32 = m; omega
  simp only [h1, h2]
  rfl
theorem dN8 {N m : Nat} (h : N = 512 * m + 4) : dvX ⟨N, [], oZ⟩ = some (.int .u8 (m : Int)) := by
  unfold dvX
  have h1 : Nat.land N 31 = 4 := by rw [land31]; omega
  have h2 : Nat.land (Nat.shiftRight N 5) 15 = 0 := by rw [land15, shr]; show N / 32 % 16 = 0; omega
  have h3 : Nat.shiftRight N 9 = m := by rw [shr]; show N / 512 = m; omega
  simp only [h1, h2, h3]
  rfl
theorem dvT : dvX ⟨33, [], oZ⟩ = some (.bool true) := by kernel_rfl
theorem dvF : dvX ⟨1, [], oZ⟩ = some (.bool false) := by kernel_rfl
theorem wrapI {x : Int} (h0 : 0 ≤ x) (h1 : x < 9223372036854775807) : IntKind.i64.wrap x = x := by
  obtain ⟨p, rfl⟩ := Int.eq_ofNat_of_zero_le h0
  exact wrap_id (p := p) (by show 32 * p ≤ maxI; unfold maxI; omega)
theorem f_conv {b : Int} (h0 : 0 ≤ b) (h1 : b < 9223372036854775807) : ConvFact .i64 ⟨13, [], .int .u8 b⟩ ⟨13, [], .int .i64 b⟩ := ⟨.u8, b, dS, by rw [wrapI h0 h1]; exact dS⟩
theorem f_rem {a : Int} {m : Nat} {C : X} (k : Nat) (N : Nat) (hN : dvX ⟨N, [], oZ⟩ = some (.int .u8 (k : Int))) (hk : 0 < k) (h0 : 0 ≤ a) (hb : a % k = m) (hC : dvX C = some (.int .u8 (m : Int))) : OpFact .rem ⟨13, [], .int .u8 a⟩ ⟨N, [], oZ⟩ C := by
  refine ⟨.int .u8 a, .int .u8 k, .int .u8 m, dS, hN, hC, rfl, ?_⟩
  show (if IntKind.u8 = IntKind.u8 ∧ (k : Int) ≠ 0 then some (Value.int .u8 (a.tmod k)) else none) = _
  rw [if_pos ⟨rfl, by omega⟩, Int.tmod_eq_emod_of_nonneg h0, hb]
theorem f_remS {a r : Int} (k : Nat) (N : Nat) (hN : dvX ⟨N, [], oZ⟩ = some (.int .u8 (k : Int))) (hk : 0 < k) (h0 : 0 ≤ a) (hb : a % k = r) : OpFact .rem ⟨13, [], .int .u8 a⟩ ⟨N, [], oZ⟩ ⟨13, [], .int .u8 r⟩ := by
  refine ⟨.int .u8 a, .int .u8 k, .int .u8 r, dS, hN, dS, rfl, ?_⟩
  show (if IntKind.u8 = IntKind.u8 ∧ (k : Int) ≠ 0 then some (Value.int .u8 (a.tmod k)) else none) = _
  rw [if_pos ⟨rfl, by omega⟩, Int.tmod_eq_emod_of_nonneg h0, hb]
section
variable {A B C : X} {x y z : Int} {q : IntKind}
theorem f_add (hA : dvX A = some (.int .i64 x)) (hB : dvX B = some (.int .i64 y)) (hC : dvX C = some (.int .i64 z)) (hz : x + y = z) (h0 : 0 ≤ z) (h1 : z < 9223372036854775807) : OpFact .add A B C := by
  refine ⟨_, _, _, hA, hB, hC, rfl, ?_⟩
  show (if IntKind.i64 = IntKind.i64 then some (Value.int .i64 (IntKind.i64.wrap (x + y))) else none) = _
  rw [if_pos rfl, hz, wrapI h0 h1]
theorem f_sub (hA : dvX A = some (.int .i64 x)) (hB : dvX B = some (.int .i64 y)) (hC : dvX C = some (.int .i64 z)) (hz : x - y = z) (h0 : 0 ≤ z) (h1 : z < 9223372036854775807) : OpFact .sub A B C := by
  refine ⟨_, _, _, hA, hB, hC, rfl, ?_⟩
  show (if IntKind.i64 = IntKind.i64 then some (Value.int .i64 (IntKind.i64.wrap (x - y))) else none) = _
  rw [if_pos rfl, hz, wrapI h0 h1]
theorem f_cmp {op : BinOp} {c : Bool} (hA : dvX A = some (.int q x)) (hB : dvX B = some (.int q y)) (hC : dvX C = some (.bool c)) (h : sbin op (.int q x) (.int q y) = some (.bool c)) : OpFact op A B C := ⟨_, _, _, hA, hB, hC, rfl, h⟩
theorem f_leqT (hA : dvX A = some (.int q x)) (hB : dvX B = some (.int q y)) (h : x ≤ y) : OpFact .leq A B ⟨33, [], oZ⟩ := f_cmp hA hB dvT (by
  show (if q = q then some (Value.bool (decide (x ≤ y))) else none) = _
  rw [if_pos rfl, decide_eq_true h])
theorem f_leqF (hA : dvX A = some (.int q x)) (hB : dvX B = some (.int q y)) (h : ¬ x ≤ y) : OpFact .leq A B ⟨1, [], oZ⟩ := f_cmp hA hB dvF (by
  show (if q = q then some (Value.bool (decide (x ≤ y))) else none) = _
  rw [if_pos rfl, decide_eq_false h])
theorem f_geqT (hA : dvX A = some (.int q x)) (hB : dvX B = some (.int q y)) (h : y ≤ x) : OpFact .geq A B ⟨33, [], oZ⟩ := f_cmp hA hB dvT (by
  show (if q = q then some (Value.bool (decide (y ≤ x))) else none) = _
  rw [if_pos rfl, decide_eq_true h])
theorem f_geqF (hA : dvX A = some (.int q x)) (hB : dvX B = some (.int q y)) (h : ¬ y ≤ x) : OpFact .geq A B ⟨1, [], oZ⟩ := f_cmp hA hB dvF (by
  show (if q = q then some (Value.bool (decide (y ≤ x))) else none) = _
  rw [if_pos rfl, decide_eq_false h])
theorem f_gtrT (hA : dvX A = some (.int q x)) (hB : dvX B = some (.int q y)) (h : y < x) : OpFact .gtr A B ⟨33, [], oZ⟩ := f_cmp hA hB dvT (by
  show (if q = q then some (Value.bool (decide (y < x))) else none) = _
  rw [if_pos rfl, decide_eq_true h])
theorem f_gtrF (hA : dvX A = some (.int q x)) (hB : dvX B = some (.int q y)) (h : ¬ y < x) : OpFact .gtr A B ⟨1, [], oZ⟩ := f_cmp hA hB dvF (by
  show (if q = q then some (Value.bool (decide (y < x))) else none) = _
  rw [if_pos rfl, decide_eq_false h])
theorem f_lssT (hA : dvX A = some (.int q x)) (hB : dvX B = some (.int q y)) (h : x < y) : OpFact .lss A B ⟨33, [], oZ⟩ := f_cmp hA hB dvT (by
  show (if q = q then some (Value.bool (decide (x < y))) else none) = _
  rw [if_pos rfl, decide_eq_true h])
theorem f_lssF (hA : dvX A = some (.int q x)) (hB : dvX B = some (.int q y)) (h : ¬ x < y) : OpFact .lss A B ⟨1, [], oZ⟩ := f_cmp hA hB dvF (by
  show (if q = q then some (Value.bool (decide (x < y))) else none) = _
  rw [if_pos rfl, decide_eq_false h])
theorem f_eqlT (hA : dvX A = some (.int q x)) (hB : dvX B = some (.int q y)) (h : x = y) : OpFact .eql A B ⟨33, [], oZ⟩ := f_cmp hA hB dvT (by
  show (if q = q then some (Value.bool (x == y)) else none) = _
  rw [if_pos rfl, h]; simp)
theorem f_eqlF (hA : dvX A = some (.int q x)) (hB : dvX B = some (.int q y)) (h : x ≠ y) : OpFact .eql A B ⟨1, [], oZ⟩ := f_cmp hA hB dvF (by
  show (if q = q then some (Value.bool (x == y)) else none) = _
  rw [if_pos rfl]; simp [h])
theorem f_neqF (hA : dvX A = some (.int q x)) (hB : dvX B = some (.int q y)) (h : x = y) : OpFact .neq A B ⟨1, [], oZ⟩ := f_cmp hA hB dvF (by
  show (if q = q then some (Value.bool (x != y)) else none) = _
  rw [if_pos rfl, h]; simp)
theorem f_neqT (hA : dvX A = some (.int q x)) (hB : dvX B = some (.int q y)) (h : x ≠ y) : OpFact .neq A B ⟨33, [], oZ⟩ := f_cmp hA hB dvT (by
  show (if q = q then some (Value.bool (x != y)) else none) = _
  rw [if_pos rfl]; simp [h])
end
end Go.M
namespace Go.M
open Go
open Go.Eng (SOp SOper SCode stripCode)
noncomputable section
variable [Ctxt]
def ixK (L : List Nat) (b : Nat) : Nat → (Nat → R) → R := @List.rec Nat (fun _ => Nat → (Nat → R) → R) (fun _ _ => none) (fun j _ ih i k => cndR (Nat.beq j b) (k i) (frc (Nat.succ i) fun i => ih i k)) L
theorem ixK_some : ∀ {L : List Nat} {b i : Nat} {k : Nat → R} {r}, ixK L b i k = some r → ∃ j, L[j]? = some b ∧ k (i + j) = some r
  | [], b, i, k, r, e => by cases e
  | c :: L, b, i, k, r, e => by
    have e1 : cndR (Nat.beq c b) (k i) (ixK L b (i + 1) k) = some r := e
    rcases cndR_some e1 with ⟨h1, h2⟩ | ⟨_, h2⟩
    · exact ⟨0, by rw [beqT h1]; rfl, h2⟩
    · obtain ⟨j, h3, h4⟩ := ixK_some h2
      exact ⟨j + 1, by simpa using h3, by rw [show i + (j + 1) = i + 1 + j from by omega]; exact h4⟩
structure RX where
  f : (X → R) → R
structure RL where
  f : (List X → R) → R
def renN (L : List Nat) (n : Nat) (k : Nat → R) : R := cndR (Nat.beq (Nat.land n 31) 7) (ixK L (Nat.shiftRight n 25) 0 fun i => frc (Nat.add (Nat.mul 33554432 i) (Nat.mod n 33554432)) fun m => k m)
  (cndR (Nat.beq (Nat.land n 31) 8) (ixK L (Nat.shiftRight n 46) 0 fun i => frc (Nat.add (Nat.mul 70368744177664 i) (Nat.mod n 70368744177664)) fun m => k m)
  (cndR (Nat.beq (Nat.land n 31) 10) (ixK L (Nat.shiftRight n 5) 0 fun i => frc (Nat.add (Nat.mul 32 i) 10) fun m => k m) (k n)))
abbrev renM (L : List Nat) (n : Nat) (o : Value) (ih : RL) : RX := ⟨fun k => ih.f fun l' => frc n fun n => renN L n fun m => k ⟨m, l', o⟩⟩
abbrev renC (a : RX) (b : RL) : RL := ⟨fun k => a.f fun y => b.f fun ys => k (y :: ys)⟩
def renX (L : List Nat) (x : X) : RX := @X.rec (fun _ => RX) (fun _ => RL) (fun n _ o ih => renM L n o ih) ⟨fun k => k []⟩ (fun _ _ a b => renC a b) x
def renL (L : List Nat) (l : List X) : RL := @X.rec_1 (fun _ => RX) (fun _ => RL) (fun n _ o ih => renM L n o ih) ⟨fun k => k []⟩ (fun _ _ a b => renC a b) l
def RenN (L : List Nat) (n n' : Nat) : Prop :=
  (n % 32 = 7 ∧ ∃ i, L[i]? = some (n / 33554432) ∧ n' = 33554432 * i + n % 33554432) ∨
  (n % 32 = 8 ∧ ∃ i, L[i]? = some (n / 70368744177664) ∧ n' = 70368744177664 * i + n % 70368744177664) ∨
  (n % 32 = 10 ∧ ∃ i, L[i]? = some (n / 32) ∧ n' = 32 * i + 10) ∨ (n % 32 ≠ 7 ∧ n % 32 ≠ 8 ∧ n % 32 ≠ 10 ∧ n' = n)
theorem renN_some {L : List Nat} {n : Nat} {k : Nat → R} {r} (e : renN L n k = some r) : ∃ n', RenN L n n' ∧ k n' = some r := by
  rcases cndR_some e with ⟨h1, h2⟩ | ⟨h1, h2⟩
  · obtain ⟨i, h3, h4⟩ := ixK_some h2
    rw [shr] at h3; rw [Nat.zero_add] at h4
    exact ⟨_, .inl ⟨by rw [← land31]; exact beqT h1, i, h3, rfl⟩, h4⟩
  · have t7 := land31' h1
    rcases cndR_some h2 with ⟨h1, h2⟩ | ⟨h1, h2⟩
    · obtain ⟨i, h3, h4⟩ := ixK_some h2
      rw [shr] at h3; rw [Nat.zero_add] at h4
      exact ⟨_, .inr (.inl ⟨by rw [← land31]; exact beqT h1, i, h3, rfl⟩), h4⟩
    · have t8 := land31' h1
      rcases cndR_some h2 with ⟨h1, h2⟩ | ⟨h1, h2⟩
      · obtain ⟨i, h3, h4⟩ := ixK_some h2
        rw [shr] at h3; rw [Nat.zero_add] at h4
        exact ⟨_, .inr (.inr (.inl ⟨by rw [← land31]; exact beqT h1, i, h3, rfl⟩)), h4⟩
      · exact ⟨n, .inr (.inr (.inr ⟨t7, t8, land31' h1, rfl⟩)), h2⟩
theorem RenN.tag {L : List Nat} {n n' : Nat} (h : RenN L n n') : n' % 32 = n % 32 := by
  rcases h with ⟨h, i, _, rfl⟩ | ⟨h, i, _, rfl⟩ | ⟨h, i, _, rfl⟩ | ⟨_, _, _, rfl⟩ <;> omega
theorem RenN.same {L : List Nat} {n n' : Nat} (h : RenN L n n') (h7 : n % 32 ≠ 7) (h8 : n % 32 ≠ 8) (h10 : n % 32 ≠ 10) : n' = n := by
  rcases h with ⟨h, _⟩ | ⟨h, _⟩ | ⟨h, _⟩ | ⟨_, _, _, rfl⟩
  · exact absurd h h7
  · exact absurd h h8
  · exact absurd h h10
  · rfl
mutual
def Ren (L : List Nat) : X → X → Prop
  | ⟨n, l, o⟩, y => RenN L n y.n ∧ y.o = o ∧ RenL L l y.l
def RenL (L : List Nat) : List X → List X → Prop
  | [], l' => l' = []
  | x :: l, l' => ∃ y r, l' = y :: r ∧ Ren L x y ∧ RenL L l r
end
theorem RenL.length {L : List Nat} : ∀ {l l' : List X}, RenL L l l' → l'.length = l.length
  | [], l', h => by unfold RenL at h; subst h; rfl
  | x :: l, l', h => by
    unfold RenL at h
    obtain ⟨y, r, rfl, _, h⟩ := h
    simp [RenL.length h]
theorem RenL.get {L : List Nat} : ∀ {l l' : List X}, RenL L l l' → ∀ {i : Nat} {y : X}, l'[i]? = some y → ∃ x, l[i]? = some x ∧ Ren L x y
  | [], l', h, i, y, hy => by unfold RenL at h; subst h; simp at hy
  | x :: l, l', h, i, y, hy => by
    unfold RenL at h
    obtain ⟨z, r, rfl, h1, h⟩ := h
    cases i with
    | zero => simp at hy; subst hy; exact ⟨x, rfl, h1⟩
    | succ i => simpa using RenL.get h (by simpa using hy)
mutual
theorem renX_some {L : List Nat} : ∀ (x : X) {k : X → R} {r}, (renX L x).f k = some r → ∃ y, Ren L x y ∧ k y = some r
  | ⟨n, l, o⟩, k, r, e => by
    have e1 : (renL L l).f (fun l' => renN L n fun m => k ⟨m, l', o⟩) = some r := e
    obtain ⟨l', h1, e2⟩ := renL_some l e1
    obtain ⟨m, h2, e3⟩ := renN_some e2
    exact ⟨⟨m, l', o⟩, by unfold Ren; exact ⟨h2, rfl, h1⟩, e3⟩
theorem renL_some {L : List Nat} : ∀ (l : List X) {k : List X → R} {r}, (renL L l).f k = some r → ∃ l', RenL L l l' ∧ k l' = some r
  | [], k, r, e => ⟨[], by unfold RenL; rfl, e⟩
  | x :: l, k, r, e => by
    have e1 : (renX L x).f (fun y => (renL L l).f fun ys => k (y :: ys)) = some r := e
    obtain ⟨y, h1, e2⟩ := renX_some x e1
    obtain ⟨ys, h2, e3⟩ := renL_some l e2
    exact ⟨y :: ys, by unfold RenL; exact ⟨y, ys, rfl, h1, h2⟩, e3⟩
end
def Vn (L : List Nat) (V : Vw) : Vw := ⟨fun i => ∃ b, L[i]? = some b ∧ V.S b, fun i => V.ρ (L.getD i 0), fun i => V.σ (L.getD i 0), fun i => V.ε (L.getD i 0)⟩
theorem getD_of {L : List Nat} {i b : Nat} (h : L[i]? = some b) : L.getD i 0 = b := by rw [List.getD_eq_getElem?_getD, h]; rfl
mutual
theorem den_ren {L : List Nat} {V : Vw} : ∀ (x : X) {y : X} {u : Value}, Ren L x y → den V x u → den (Vn L V) y u
  | ⟨n, l, o⟩, ⟨n', l', o'⟩, u, hr, hd => by
    unfold Ren at hr
    obtain ⟨hn, ho, hl⟩ := hr
    have ho : o' = o := ho
    subst ho
    have ht : n' % 32 = n % 32 := hn.tag
    have hs : ∀ t, n % 32 = t → t ≠ 7 → t ≠ 8 → t ≠ 10 → n' = n := fun t e h7 h8 h10 => hn.same (by omega) (by omega) (by omega)
    have hll : ∀ vs, denL V l vs → denL (Vn L V) l' vs := fun vs => denL_ren l hl
    unfold den at hd
    split at hd
    · rename_i e; rw [hs _ e (by decide) (by decide) (by decide)] at ht ⊢; exact (den0 (x := ⟨n, l', o'⟩) e).2 hd
    · rename_i e; rw [hs _ e (by decide) (by decide) (by decide)] at ht ⊢; exact (den1 (x := ⟨n, l', o'⟩) e).2 hd
    · rename_i e; rw [hs _ e (by decide) (by decide) (by decide)] at ht ⊢
      obtain ⟨vs, h1, h2, h3, h4⟩ := hd
      exact (den2 (x := ⟨n, l', o'⟩) e).2 ⟨vs, h1, h2, hll vs h3, h4⟩
    · rename_i e; rw [hs _ e (by decide) (by decide) (by decide)] at ht ⊢
      obtain ⟨vs, h1, h3⟩ := hd
      exact (den3 (x := ⟨n, l', o'⟩) e).2 ⟨vs, h1, hll vs h3⟩
    · rename_i e; rw [hs _ e (by decide) (by decide) (by decide)] at ht ⊢; exact (den4 (x := ⟨n, l', o'⟩) e).2 hd
    · rename_i e; rw [hs _ e (by decide) (by decide) (by decide)] at ht ⊢; exact (den5 (x := ⟨n, l', o'⟩) e).2 hd
    · rename_i e; rw [hs _ e (by decide) (by decide) (by decide)] at ht ⊢; exact (den6 (x := ⟨n, l', o'⟩) e).2 hd
    · rename_i e
      have hn' : ∃ i, L[i]? = some (n / 33554432) ∧ n' = 33554432 * i + n % 33554432 := by
        rcases hn with ⟨_, h⟩ | ⟨h, _⟩ | ⟨h, _⟩ | ⟨h, _⟩
        · exact h
        · omega
        · omega
        · exact absurd e h
      obtain ⟨i, h1, rfl⟩ := hn'
      obtain ⟨h2, h3⟩ := hd
      have a1 : n / 32 / 1048576 = n / 33554432 := by omega
      have a2 : (33554432 * i + n % 33554432) / 32 / 1048576 = i := by omega
      have a3 : (33554432 * i + n % 33554432) / 32 % 1048576 = n / 32 % 1048576 := by omega
      refine (den7 (by show (33554432 * i + n % 33554432) % 32 = 7; omega)).2 ?_
      simp only [a2, a3]
      rw [a1] at h2 h3
      exact ⟨⟨_, h1, h2⟩, by rw [h3]; show _ = Value.pointer (some ⟨V.ρ (L.getD i 0), _, none⟩); rw [getD_of h1]⟩
    · rename_i e
      have hn' : ∃ i, L[i]? = some (n / 70368744177664) ∧ n' = 70368744177664 * i + n % 70368744177664 := by
        rcases hn with ⟨h, _⟩ | ⟨_, h⟩ | ⟨h, _⟩ | ⟨_, h, _⟩
        · omega
        · exact h
        · omega
        · exact absurd e h
      obtain ⟨i, h1, rfl⟩ := hn'
      obtain ⟨h2, cap, h3, h4, h5, h6⟩ := hd
      have a1 : n / 64 / 1048576 / 1048576 = n / 70368744177664 := by omega
      have a2 : (70368744177664 * i + n % 70368744177664) / 64 / 1048576 / 1048576 = i := by omega
      have a3 : (70368744177664 * i + n % 70368744177664) / 64 / 1048576 % 1048576 = n / 64 / 1048576 % 1048576 := by omega
      have a4 : (70368744177664 * i + n % 70368744177664) / 64 % 1048576 = n / 64 % 1048576 := by omega
      have a5 : (70368744177664 * i + n % 70368744177664) / 32 % 2 = n / 32 % 2 := by omega
      refine (den8 (by show (70368744177664 * i + n % 70368744177664) % 32 = 8; omega)).2 ?_
      simp only [a2, a3, a4, a5]
      rw [a1] at h2 h3 h6
      have e1 : (Vn L V).ρ i = V.ρ (n / 70368744177664) := by show V.ρ (L.getD i 0) = _; rw [getD_of h1]
      have e2 : (Vn L V).ε i = V.ε (n / 70368744177664) := by show V.ε (L.getD i 0) = _; rw [getD_of h1]
      have e3 : (Vn L V).σ i = V.σ (n / 70368744177664) := by show V.σ (L.getD i 0) = _; rw [getD_of h1]
      rw [e1, e2, e3]
      exact ⟨⟨_, h1, h2⟩, cap, h3, h4, h5, h6⟩
    · rename_i e; rw [hs _ e (by decide) (by decide) (by decide)] at ht ⊢
      obtain ⟨vs, h1, h3⟩ := hd
      exact (den9 (x := ⟨n, l', o'⟩) e).2 ⟨vs, h1, hll vs h3⟩
    · rename_i e
      have hn' : ∃ i, L[i]? = some (n / 32) ∧ n' = 32 * i + 10 := by
        rcases hn with ⟨h, _⟩ | ⟨h, _⟩ | ⟨_, h⟩ | ⟨_, _, h, _⟩
        · omega
        · omega
        · exact h
        · exact absurd e h
      obtain ⟨i, h1, rfl⟩ := hn'
      obtain ⟨h2, h3⟩ := hd
      have a2 : (32 * i + 10) / 32 = i := by omega
      refine (den10 (by show (32 * i + 10) % 32 = 10; omega)).2 ?_
      simp only [a2]
      exact ⟨⟨_, h1, h2⟩, by rw [h3]; show _ = Value.map (some (V.ρ (L.getD i 0))); rw [getD_of h1]⟩
    · rename_i e; rw [hs _ e (by decide) (by decide) (by decide)] at ht ⊢; exact (den11 (x := ⟨n, l', o'⟩) e).2 hd
    · rename_i e; rw [hs _ e (by decide) (by decide) (by decide)] at ht ⊢; exact (den12 (x := ⟨n, l', o'⟩) (.inl e)).2 hd
    · rename_i e; rw [hs _ e (by decide) (by decide) (by decide)] at ht ⊢; exact (den12 (x := ⟨n, l', o'⟩) (.inr e)).2 hd
    · rename_i e; rw [hs _ e (by decide) (by decide) (by decide)] at ht ⊢; exact (den14 (x := ⟨n, l', o'⟩) e).2 hd
    · rename_i e; rw [hs _ e (by decide) (by decide) (by decide)] at ht ⊢; exact (den16 (x := ⟨n, l', o'⟩) e).2 hd
    · exact hd.elim
theorem denL_ren {L : List Nat} {V : Vw} : ∀ (l : List X) {l' : List X} {vs : List Value}, RenL L l l' → denL V l vs → denL (Vn L V) l' vs
  | [], l', vs, hr, hd => by
    unfold RenL at hr; subst hr
    exact denL_nil.2 (denL_nil.1 hd)
  | x :: l, l', vs, hr, hd => by
    unfold RenL at hr
    obtain ⟨y, r, rfl, h1, h2⟩ := hr
    obtain ⟨v, vr, rfl, h3, h4⟩ := denL_cons.1 hd
    exact denL_cons.2 ⟨v, vr, rfl, den_ren x h1 h3, denL_ren l h2 h4⟩
end
theorem Ren.parts {L : List Nat} {x y : X} (h : Ren L x y) : RenN L x.n y.n ∧ y.o = x.o ∧ RenL L x.l y.l := by
  obtain ⟨n, l, o⟩ := x
  unfold Ren at h; exact h
theorem rows_ren {L : List Nat} {V : Vw} {e : Nat} {rows rows' : List X} {cells : Array Value} (hr : RenL L rows rows') (h : RowsR V e rows cells) : RowsR (Vn L V) e rows' cells := fun q row hq => by
  obtain ⟨x, h1, h2⟩ := hr.get hq
  obtain ⟨h3, h4, h5⟩ := h q x h1
  obtain ⟨p1, _, p3⟩ := h2.parts
  refine ⟨?_, p3.length.trans h4, fun j c hj => ?_⟩
  · rw [p1.same (by omega) (by omega) (by omega)]; exact h3
  · obtain ⟨c0, h6, h7⟩ := p3.get hj
    obtain ⟨u, h8, h9, h10⟩ := h5 j c0 h6
    exact ⟨u, h8, h9, den_ren c0 h7 h10⟩
theorem ent_ren {L : List Nat} {V : Vw} : ∀ {l l' : List X} {es : List MapEntry}, RenL L l l' → EntR V l es → EntR (Vn L V) l' es
  | [], l', es, hr, h => by unfold RenL at hr; subst hr; exact h
  | x :: l, l', es, hr, h => by
    unfold RenL at hr
    obtain ⟨y, r, rfl, h1, h2⟩ := hr
    obtain ⟨e, er, c, g1, g2, g3, ⟨q, m, g4⟩, g5, g6⟩ := h
    obtain ⟨p1, _, p3⟩ := h1.parts
    rw [g2] at p3
    unfold RenL at p3
    obtain ⟨c', r', p4, p5, p6⟩ := p3
    unfold RenL at p6
    subst p6
    have hk : x.n % 32 ≠ 7 ∧ x.n % 32 ≠ 8 ∧ x.n % 32 ≠ 10 := by
      refine ⟨fun t => ?_, fun t => ?_, fun t => ?_⟩
      · have := ((den7 (x := ⟨x.n, [], oZ⟩) t).1 g3).2; rw [g4] at this; cases this
      · obtain ⟨_, cap, this, _⟩ := (den8 (x := ⟨x.n, [], oZ⟩) t).1 g3; rw [g4] at this; cases this
      · have := ((den10 (x := ⟨x.n, [], oZ⟩) t).1 g3).2; rw [g4] at this; cases this
    have hn := p1.same hk.1 hk.2.1 hk.2.2
    refine ⟨e, er, c', g1, p4, ?_, ⟨q, m, g4⟩, den_ren c p5 g5, ent_ren h2 g6⟩
    rw [hn]
    refine den_ren ⟨x.n, [], oZ⟩ ?_ g3
    unfold Ren RenL
    exact ⟨.inr (.inr (.inr ⟨hk.1, hk.2.1, hk.2.2, rfl⟩)), rfl, rfl⟩
theorem blk_ren {L : List Nat} {V : Vw} {w : World} {b i : Nat} {x y : X} (hi : L[i]? = some b) (hr : Ren L x y) (h : BlkR V w b x) : BlkR (Vn L V) w i y := by
  obtain ⟨p1, _, p3⟩ := hr.parts
  have e1 : (Vn L V).ρ i = V.ρ b := by show V.ρ (L.getD i 0) = _; rw [getD_of hi]
  have e2 : (Vn L V).ε i = V.ε b := by show V.ε (L.getD i 0) = _; rw [getD_of hi]
  have e3 : (Vn L V).σ i = V.σ b := by show V.σ (L.getD i 0) = _; rw [getD_of hi]
  have ht := p1.tag
  unfold BlkR at h ⊢
  rw [e1, e2, e3, ht]
  split at h
  · rename_i t
    obtain ⟨cells, e, h1, h2, h3, h4, h5, h6⟩ := h
    exact ⟨cells, e, h1, h2, by rw [p1.same (by omega) (by omega) (by omega)]; exact h3, h4, by rw [p3.length]; exact h5, rows_ren p3 h6⟩
  · rename_i t
    obtain ⟨cells, e, h1, h2, h3, h4, h5, h6⟩ := h
    exact ⟨cells, e, h1, h2, by rw [p1.same (by omega) (by omega) (by omega)]; exact h3, h4, by rw [p3.length]; exact h5, rows_ren p3 h6⟩
  · obtain ⟨es, c, h1, h2⟩ := h
    exact ⟨es, c, h1, ent_ren p3 h2⟩
  · trivial
def bldK (l : List X) : Nat → T8 → (T8 → R) → R := @List.rec X (fun _ => Nat → T8 → (T8 → R) → R) (fun _ t k => k t) (fun x _ ih i t k => opn x fun a m o => (tr8.put i).f t ⟨a, m, o⟩ fun t => frc (Nat.succ i) fun i => ih i t k) l
def bldT : List X → Nat → T8 → T8
  | [], _, t => t
  | x :: l, i, t => bldT l (i + 1) (tr8.pt t i x)
theorem bldK_eq : ∀ (l : List X) (i : Nat) (t : T8) (k : T8 → R), bldK l i t k = k (bldT l i t)
  | [], i, t, k => rfl
  | x :: l, i, t, k => by
    show opn x (fun a m o => (tr8.put i).f t ⟨a, m, o⟩ fun t => bldK l (i + 1) t k) = _
    rw [opn_eq, tr8_ok.put_eq]; cases x; exact bldK_eq l _ _ _
theorem bldT_get : ∀ (l : List X) (i : Nat) (t : T8) (b : Nat), i + l.length ≤ 65536 → b < 65536 → (tr8.get b).g (bldT l i t) = if b < i then (tr8.get b).g t else match l[b - i]? with
    | some x => x
    | none => (tr8.get b).g t
  | [], i, t, b, _, _ => by simp [bldT]
  | x :: l, i, t, b, h, hb => by
    simp only [List.length_cons] at h
    show (tr8.get b).g (bldT l (i + 1) (tr8.pt t i x)) = _
    rw [bldT_get l (i + 1) _ b (by omega) hb, gH_pt (by omega) hb]
    by_cases h1 : b < i
    · rw [if_pos (by omega), if_neg (by omega), if_pos h1]
    · rw [if_neg h1]
      by_cases h2 : b = i
      · subst h2; rw [if_pos (by omega), if_pos rfl]; simp
      · rw [if_neg (by omega), if_neg h2]
        obtain ⟨d, rfl⟩ : ∃ d, b = i + 1 + d := ⟨b - (i + 1), by omega⟩
        rw [show i + 1 + d - (i + 1) = d from by omega, show i + 1 + d - i = d + 1 from by omega]
        simp
theorem get_f4 {α : Type} {g : Nat → GetB α} {i j b : Nat} (x : α) : (get4 g i j b).g (f4 x) = (g b).g x := by
  unfold get4 f4
  cases bitZ b i <;> cases bitZ b j <;> rfl
theorem gH_fxZ (b : Nat) : (tr8.get b).g fxZ = mk0 0 := by
  show (get4 tr7.get 14 15 b).g (f4 _) = _
  rw [get_f4]
  show (get4 tr6.get 12 13 b).g (f4 _) = _
  rw [get_f4]
  show (get4 tr5.get 10 11 b).g (f4 _) = _
  rw [get_f4]
  show (get4 tr4.get 8 9 b).g (f4 _) = _
  rw [get_f4]
  show (get4 tr3.get 6 7 b).g (f4 _) = _
  rw [get_f4]
  show (get4 tr2.get 4 5 b).g (f4 _) = _
  rw [get_f4]
  show (get4 tr1.get 2 3 b).g (f4 _) = _
  rw [get_f4]
  show (get4 tree0.get 0 1 b).g (f4 _) = _
  rw [get_f4]; rfl
def frmK (l : List X) : Nat → FX → (FX → R) → R := @List.rec X (fun _ => Nat → FX → (FX → R) → R) (fun _ t k => k t) (fun x _ ih i t k => opn x fun a m o => (tr3.put i).f t ⟨a, m, o⟩ fun t => frc (Nat.succ i) fun i => ih i t k) l
def frmT : List X → Nat → FX → FX
  | [], _, t => t
  | x :: l, i, t => frmT l (i + 1) (tr3.pt t i x)
theorem frmK_eq : ∀ (l : List X) (i : Nat) (t : FX) (k : FX → R), frmK l i t k = k (frmT l i t)
  | [], i, t, k => rfl
  | x :: l, i, t, k => by
    show opn x (fun a m o => (tr3.put i).f t ⟨a, m, o⟩ fun t => frmK l (i + 1) t k) = _
    rw [opn_eq, tr3_ok.put_eq]; cases x; exact frmK_eq l _ _ _
theorem slot_pt {t : FX} {i j : Nat} {x : X} (hi : i < 64) (hj : j < 64) : slotX (tr3.pt t i x) j = if j = i then x else slotX t j := by
  by_cases e : j = i
  · subst e; rw [if_pos rfl]; exact tr3_ok.self _ _ _ _ (samB_refl _ _)
  · rw [if_neg e]; exact tr3_ok.other _ _ _ _ fun hs => e (samB_eq hs hi hj).symm
theorem frmT_get : ∀ (l : List X) (i : Nat) (t : FX) (b : Nat), i + l.length ≤ 64 → b < 64 → slotX (frmT l i t) b = if b < i then slotX t b else match l[b - i]? with
    | some x => x
    | none => slotX t b
  | [], i, t, b, _, _ => by simp [frmT]
  | x :: l, i, t, b, h, hb => by
    simp only [List.length_cons] at h
    show slotX (frmT l (i + 1) (tr3.pt t i x)) b = _
    rw [frmT_get l (i + 1) _ b (by omega) hb, slot_pt (by omega) hb]
    by_cases h1 : b < i
    · rw [if_pos (by omega), if_neg (by omega), if_pos h1]
    · rw [if_neg h1]
      by_cases h2 : b = i
      · subst h2; rw [if_pos (by omega), if_pos rfl]; simp
      · rw [if_neg (by omega), if_neg h2]
        obtain ⟨d, rfl⟩ : ∃ d, b = i + 1 + d := ⟨b - (i + 1), by omega⟩
        rw [show i + 1 + d - (i + 1) = d from by omega, show i + 1 + d - i = d + 1 from by omega]
        simp
def frsK (m : Nat) : Nat → FX → (List X → R) → R := @Nat.rec (fun _ => Nat → FX → (List X → R) → R) (fun _ _ k => k []) (fun _ ih j fr k => opn ((tr3.get j).g fr) fun a l o => frc (Nat.succ j) fun j' => ih j' fr fun xs => k (⟨a, l, o⟩ :: xs)) m
theorem frsK_some : ∀ {m j : Nat} {fr : FX} {k : List X → R} {r}, frsK m j fr k = some r → ∃ xs, xs.length = m ∧ (∀ i, i < m → xs[i]? = some (slotX fr (j + i))) ∧ k xs = some r
  | 0, j, fr, k, r, e => ⟨[], rfl, fun i hi => absurd hi (Nat.not_lt_zero _), e⟩
  | m + 1, j, fr, k, r, e => by
    have e1 : opn (slotX fr j) (fun a l o => frsK m (j + 1) fr fun xs => k (⟨a, l, o⟩ :: xs)) = some r := e
    rw [opn_eq] at e1
    obtain ⟨xs, h1, h2, h3⟩ := frsK_some e1
    refine ⟨slotX fr j :: xs, by simp [h1], fun i hi => ?_, by cases hx : slotX fr j; rw [hx] at h3; exact h3⟩
    cases i with
    | zero => rfl
    | succ i => rw [List.getElem?_cons_succ, h2 i (by omega)]; congr 2; omega
def blkK (L D : List Nat) (h : Hp) (l : List Nat) : (List X → R) → R := @List.rec Nat (fun _ => (List X → R) → R) (fun k => k []) (fun b _ ih k => cndR (Nat.ble b 65535) (cndR (mem D b) (ih fun ys => k (mk0 0 :: ys)) ((renX L (gH h b)).f fun y => ih fun ys => k (y :: ys))) none) l
theorem blkK_some {L D : List Nat} {h : Hp} : ∀ {l : List Nat} {k : List X → R} {r}, blkK L D h l k = some r → ∃ ys, ys.length = l.length ∧ (∀ (i b : Nat), l[i]? = some b → b < 65536 ∧ ∃ y, ys[i]? = some y ∧ (y = mk0 0 ∨ Ren L (gH h b) y)) ∧ k ys = some r
  | [], k, r, e => ⟨[], rfl, fun i b h => by simp at h, e⟩
  | c :: l, k, r, e => by
    obtain ⟨hc, e1⟩ := cndR_t (show cndR (Nat.ble c 65535) (cndR (mem D c) (blkK L D h l fun ys => k (mk0 0 :: ys)) ((renX L (gH h c)).f fun y => blkK L D h l fun ys => k (y :: ys))) none = some r from e)
    have hc : c ≤ 65535 := bleT hc
    have fin : ∀ y, (y = mk0 0 ∨ Ren L (gH h c) y) → (blkK L D h l fun ys => k (y :: ys)) = some r → ∃ ys, ys.length = (c :: l).length ∧ (∀ (i b : Nat), (c :: l)[i]? = some b → b < 65536 ∧ ∃ y, ys[i]? = some y ∧ (y = mk0 0 ∨ Ren L (gH h b) y)) ∧ k ys = some r := fun y hy e2 => by
      obtain ⟨ys, h1, h2, h3⟩ := blkK_some e2
      refine ⟨y :: ys, by simp [h1], fun i b hb => ?_, h3⟩
      cases i with
      | zero => simp at hb; subst hb; exact ⟨by omega, y, rfl, hy⟩
      | succ i => simpa using h2 i b (by simpa using hb)
    rcases cndR_some e1 with ⟨_, e2⟩ | ⟨_, e2⟩
    · exact fin _ (.inl rfl) e2
    · obtain ⟨y, h1, e3⟩ := renX_some _ e2
      exact fin y (.inr h1) e3
def incB (l : List Nat) : Nat → Bool := @List.rec Nat (fun _ => Nat → Bool) (fun _ => true) (fun b _ ih a => cnd (Nat.ble a b) (ih (Nat.succ b)) false) l
theorem incB_get : ∀ {l : List Nat} {a : Nat}, incB l a = true → ∀ (i b : Nat), l[i]? = some b → a ≤ b
  | [], a, _, i, b, hb => by simp at hb
  | c :: l, a, h, i, b, hb => by
    have h1 : cnd (Nat.ble a c) (incB l (c + 1)) false = true := h
    rw [cnd_if] at h1
    split at h1
    · rename_i hc
      cases i with
      | zero => simp at hb; subst hb; exact bleT hc
      | succ i => have := incB_get h1 i b (by simpa using hb); have := bleT hc; omega
    · cases h1
theorem incB_inj : ∀ {l : List Nat} {a : Nat}, incB l a = true → ∀ (i j b : Nat), l[i]? = some b → l[j]? = some b → i = j
  | [], a, _, i, j, b, hb, _ => by simp at hb
  | c :: l, a, h, i, j, b, hi, hj => by
    have h1 : cnd (Nat.ble a c) (incB l (c + 1)) false = true := h
    rw [cnd_if] at h1
    split at h1
    · cases i with
      | zero => cases j with
        | zero => rfl
        | succ j => simp at hi; subst hi; have := incB_get h1 j _ (by simpa using hj); omega
      | succ i => cases j with
        | zero => simp at hj; subst hj; have := incB_get h1 i _ (by simpa using hi); omega
        | succ j => rw [incB_inj h1 i j b (by simpa using hi) (by simpa using hj)]
    · cases h1
def tidyK (m : Nat) (L D : List Nat) (fr : FX) (h : Hp) (k : List X → List X → R) : R := cndR (incB L 0) (cndR (Nat.ble (List.length L) 65535) (frsK m 0 fr fun xs => (renL L xs).f fun ys => blkK L D h L fun bs => k ys bs) none) none
end
end Go.M
namespace Go.M
open Go
open Go.Eng (SOp SOper SCode stripCode)
noncomputable section
variable [Ctxt]
abbrev cxF (cl : Nat → FC) (F : Fun) : Cx := ⟨cl, F.G, F.PV, F.FL, fuelN⟩
abbrev z (n : Nat) : X := ⟨n, [], oZ⟩
abbrev y (n : Nat) (l : List X) : X := ⟨n, l, oZ⟩
def sL : SCode → SCode
  | .seq a _ => a
  | c => c
def sR : SCode → SCode
  | .seq _ b => b
  | c => c
def sB : SCode → SCode
  | .block _ a => a
  | .loop a => a
  | c => c
def sT : SCode → SCode
  | .cond _ a _ => a
  | c => c
def sE : SCode → SCode
  | .cond _ _ a => a
  | c => c
structure Tst where
  fr : List X
  n : Nat
  bl : List X
def B0 (w0 : World) (nt : Nat) : Bs := ⟨w0, 0, Vz, ⟨0, 0, fxZ, [], []⟩, w0, nt⟩
def hpT (S : Tst) (q : List X) : Hp := ⟨S.n, 0, bldT S.bl 0 fxZ, [], q⟩
def frT (S : Tst) : FX := frmT S.fr 0 fr0
def TopAt (cx : Cx) (nt : Nat) (w0 : World) (S : Tst) (a : Act) (w : World) : Prop := At cx (B0 w0 nt) en0 (frT S) [] (hpT S []) a w
theorem At.hp {cx : Cx} {B : Bs} {en : En} {fr : FX} {l : Loc} {h h' : Hp} {a : Act} {w : World} (hA : At cx B en fr l h a w) (hn : h'.n = h.n) (ht : h'.t = h.t) : At cx B en fr l h' a w := by
  obtain ⟨V, γ, hs⟩ := hA
  have hg : ∀ b, gH h' b = gH h b := fun b => by show (tr8.get b).g h'.t = _; rw [ht]
  exact ⟨V, γ, ⟨fun b hb => by rw [hn]; exact hs.mr.nb b hb, fun b hb => by rw [hg]; exact hs.mr.bl b hb, fun b b' hb hb' h1 h2 => by rw [hg] at h1 h2; exact hs.mr.inj b b' hb hb' h1 h2, hs.mr.nw, hs.mr.old, hs.mr.sz, hs.mr.os, hs.mr.tape, hs.mr.output, hs.mr.ar⟩, hs.stp, hs.tm, hs.vr, hs.inj, hs.df, hs.sz, hs.b0⟩
theorem tidy_ok {cx : Cx} {m : Nat} {L D : List Nat} {fr : FX} {h : Hp} {k : List X → List X → R} {r} (hm : cx.G.length = m) (h64 : m ≤ 64) (e : tidyK m L D fr h k = some r) :
    ∃ ys bs, k ys bs = some r ∧ ∀ nt w0 a w, At cx (B0 w0 nt) en0 fr [] h a w → TopAt cx nt w0 ⟨ys, L.length, bs⟩ a w := by
  obtain ⟨hinc, e1⟩ := cndR_t e
  obtain ⟨hlen, e2⟩ := cndR_t e1
  have hlen : L.length ≤ 65535 := bleT hlen
  obtain ⟨xs, x1, x2, e3⟩ := frsK_some e2
  obtain ⟨ys, y1, e4⟩ := renL_some xs e3
  obtain ⟨bs, b1, b2, e5⟩ := blkK_some e4
  refine ⟨ys, bs, e5, fun nt w0 a w ⟨V, γ, hS⟩ => ?_⟩
  have hyl : ys.length = m := y1.length.trans x1
  have hsl : ∀ j, j < m → Ren L (slotX fr j) (slotX (frmT ys 0 fr0) j) := fun j hj => by
    obtain ⟨y, hy⟩ : ∃ y, ys[j]? = some y := ⟨ys[j]'(by omega), List.getElem?_eq_getElem (by omega)⟩
    obtain ⟨x, h1, h2⟩ := y1.get hy
    rw [x2 j hj, Nat.zero_add] at h1
    simp only [Option.some.injEq] at h1
    subst h1
    rw [frmT_get ys 0 fr0 j (by omega) (by omega), if_neg (by omega), Nat.sub_zero, hy]
    exact h2
  have hgh : ∀ i b, L[i]? = some b → b < 65536 ∧ (gH (hpT ⟨ys, L.length, bs⟩ []) i = mk0 0 ∨ Ren L (gH h b) (gH (hpT ⟨ys, L.length, bs⟩ []) i)) := fun i b hb => by
    have hi : i < L.length := (List.getElem?_eq_some_iff.1 hb).1
    obtain ⟨h1, y, h2, h3⟩ := b2 i b hb
    have : gH (hpT ⟨ys, L.length, bs⟩ []) i = y := by
      show (tr8.get i).g (bldT bs 0 fxZ) = y
      rw [bldT_get bs 0 fxZ i (by omega) (by omega), if_neg (by omega), Nat.sub_zero, h2]
    rw [this]; exact ⟨h1, h3⟩
  have hlive : ∀ i b, L[i]? = some b → live (gH (hpT ⟨ys, L.length, bs⟩ []) i) → live (gH h b) := fun i b hb hl => by
    rcases (hgh i b hb).2 with h1 | h1
    · rw [h1] at hl; rcases hl with h | h | h <;> cases h
    · have := h1.parts.1.tag
      unfold live at hl ⊢
      rw [this] at hl; exact hl
  have hρ : ∀ i b, L[i]? = some b → (Vn L V).ρ i = V.ρ b := fun i b hb => by show V.ρ (L.getD i 0) = _; rw [getD_of hb]
  have hm' := hS.mr
  have hMR : MR w0 (Vn L V) (hpT ⟨ys, L.length, bs⟩ []) w := by
    refine ⟨fun i ⟨b, hb, _⟩ => ?_, fun i ⟨b, hb, hb'⟩ => ?_, fun i j ⟨b, hb, hb'⟩ ⟨c, hc, hc'⟩ h1 h2 h3 => ?_, fun i ⟨b, hb, hb'⟩ => ?_, hm'.old, hm'.sz, hm'.os, hm'.tape, hm'.output, hm'.ar⟩
    · have hi : i < L.length := (List.getElem?_eq_some_iff.1 hb).1
      exact ⟨hi, by omega⟩
    · rcases (hgh i b hb).2 with h1 | h1
      · rw [h1]; exact trivial
      · exact blk_ren hb h1 (hm'.bl b hb')
    · rw [hρ i b hb, hρ j c hc] at h3
      have := hm'.inj b c hb' hc' (hlive i b hb h1) (hlive j c hc h2) h3
      subst this
      exact incB_inj hinc i j b hb hc
    · rw [hρ i b hb]; exact hm'.nw b hb'
  have hC : ∀ p x, staC cx en0 (frT ⟨ys, L.length, bs⟩) [] p = some x → ∃ j y, ix cx.G p = some j ∧ j < m ∧ x = slotX (frT ⟨ys, L.length, bs⟩) j ∧ x.n ≠ 14 ∧ y = slotX fr j ∧ staC cx en0 fr [] p = some y ∧ mem cx.PV p = true := fun p x hx => by
    have hx' : (if mem cx.PV p = true then match ix cx.G p with
      | some j => if (slotX (frT ⟨ys, L.length, bs⟩) j).n = 14 then none else some (slotX (frT ⟨ys, L.length, bs⟩) j)
      | none => none
      else none) = some x := hx
    split at hx'
    · rename_i hpv
      cases hj : ix cx.G p with
      | none => rw [hj] at hx'; cases hx'
      | some j =>
        rw [hj] at hx'
        have hgj := ix_get hj
        have hlt : j < m := by rw [← hm]; exact (List.getElem?_eq_some_iff.1 hgj).1
        by_cases e14 : (slotX (frT ⟨ys, L.length, bs⟩) j).n = 14
        · simp only [e14, if_true] at hx'; cases hx'
        · simp only [e14, if_false, Option.some.injEq] at hx'
          refine ⟨j, _, rfl, hlt, hx'.symm, by rw [← hx']; exact e14, rfl, ?_, hpv⟩
          show (if mem cx.PV p = true then match ix cx.G p with
            | some j => if (slotX fr j).n = 14 then none else some (slotX fr j)
            | none => none
            else none) = _
          have hr := (hsl j hlt).parts.1
          have : (slotX fr j).n ≠ 14 := fun e => e14 (by rw [show (slotX (frT ⟨ys, L.length, bs⟩) j).n = (slotX fr j).n from hr.same (by omega) (by omega) (by omega)]; exact e)
          rw [hpv, hj]; simp [this]
    · cases hx'
  refine ⟨Vn L V, γ, hMR, ⟨⟨fun b hb => hb.elim, fun b hb => hb.elim, fun b hb => hb.elim, fun b hb => hb.elim⟩, fun b hb => .inr ⟨Nat.zero_le _, .inl (hMR.nw b hb).1⟩, fun g hg _ => hm'.old g hg, hm'.sz⟩, fun k' sv hk => ?_, fun p x hp => ?_, fun p q x y hp hq hne => ?_, hS.df, hS.sz, hS.b0⟩
  · have hk' : (if mem cx.PV k' = true then (match staC cx en0 (frT ⟨ys, L.length, bs⟩) [] k' with
      | some _ => some (SV.ptr k' 0 true)
      | none => none) else match ix cx.G k' with
        | some j => some (SV.val (slotX (frT ⟨ys, L.length, bs⟩) j))
        | none => none) = some sv := hk
    split at hk'
    · rename_i hpv
      cases hc : staC cx en0 (frT ⟨ys, L.length, bs⟩) [] k' with
      | none => rw [hc] at hk'; cases hk'
      | some x =>
        rw [hc] at hk'
        simp only [Option.some.injEq] at hk'
        subst hk'
        obtain ⟨j, y, _, _, _, _, _, h6, _⟩ := hC k' x hc
        have : (sta cx en0 fr []).T k' = some (.ptr k' 0 true) := by
          show staT cx en0 fr [] k' = _
          unfold staT
          show (if mem cx.PV k' = true then (match staC cx en0 fr [] k' with
            | some _ => some (SV.ptr k' 0 true)
            | none => none) else _) = _
          rw [hpv, h6]; rfl
        exact hS.tm k' _ this
    · rename_i hpv
      cases hj : ix cx.G k' with
      | none => rw [hj] at hk'; cases hk'
      | some j =>
        rw [hj] at hk'
        simp only [Option.some.injEq] at hk'
        subst hk'
        have hgj := ix_get hj
        have hlt : j < m := by rw [← hm]; exact (List.getElem?_eq_some_iff.1 hgj).1
        have : (sta cx en0 fr []).T k' = some (.val (slotX fr j)) := by
          show staT cx en0 fr [] k' = _
          unfold staT
          show (if mem cx.PV k' = true then _ else match ix cx.G k' with
            | some j => some (SV.val (slotX fr j))
            | none => none) = _
          rw [if_neg hpv, hj]
        exact den_ren _ (hsl j hlt) (hS.tm k' _ this)
  · obtain ⟨j, y, _, h2, rfl, h4, rfl, h6, _⟩ := hC p x hp
    obtain ⟨v1, ⟨cells, ety, v2, _, u, v4, v5, v6⟩, v7⟩ := hS.vr p _ h6
    refine ⟨v1, ⟨cells, ety, v2, h4, u, den_ren _ (hsl j h2) v4, v5, v6⟩, fun i ⟨b, hb, hb'⟩ => ?_⟩
    rw [hρ i b hb]; exact v7 b hb'
  · obtain ⟨_, y1, _, _, _, _, _, h6, _⟩ := hC p x hp
    obtain ⟨_, y2, _, _, _, _, _, h7, _⟩ := hC q y hq
    exact hS.inj p q _ _ h6 h7 hne
def ER (e : Nat) (e' : Exit) : Prop := if e = 0 then e' = .normal else ExR e e'
def T (P : Program) (cx : Cx) (nt : Nat) (c : Code) (S : Tst) (Q : Exit → Tst → Prop) : Prop := ∀ w0 a w, TopAt cx nt w0 S a w → c.wp P (fun e' a' w' => ∃ S', Q e' S' ∧ TopAt cx nt w0 S' a' w') a w
def TR (P : Program) (cx : Cx) (nt : Nat) (c : Code) (S : Tst) (Q : Exit → Tst → Prop) (n : Nat) : Prop := ∀ w0 a w, TopAt cx nt w0 S a w → Code.rounds P c (fun e' a' w' => ∃ S', Q e' S' ∧ TopAt cx nt w0 S' a' w') n a w
def itB (f : FR) (m : Nat) : FR := @Nat.rec (fun _ => FR) ⟨fun fr _ h k => k 0 fr h⟩ (fun _ ih => ⟨fun fr _ h k => f.f fr [] h fun e fr h => cndR (Nat.beq e 0) (ih.f fr [] h k) (k e fr h)⟩) m
def segF (cx : Cx) (f : FR) (S : Tst) (q : List X) (e0 : Nat) (L D : List Nat) (S' : Tst) : R :=
  frmK S.fr 0 fr0 fun fr => bldK S.bl 0 fxZ fun t => f.f fr [] ⟨S.n, 0, t, [], q⟩ fun e fr h => cndR (Nat.beq e e0) (frc (List.length cx.G) fun m => tidyK m L D fr h fun ys bs => some ((ys = S'.fr) :: (bs = S'.bl) :: h.fa)) none
def seg (cx : Cx) (sc : SCode) (S : Tst) (q : List X) (e0 : Nat) (L D : List Nat) (S' : Tst) : R := segF cx (exC cx sc en0 (endR cx 0)) S q e0 L D S'
def segR (cx : Cx) (sc : SCode) (m : Nat) (S : Tst) (q : List X) (e0 : Nat) (L D : List Nat) (S' : Tst) : R := segF cx (itB (exC cx sc en0 (endR cx 0)) m) S q e0 L D S'
section
variable {P : Program} {cx : Cx} {nt : Nat}
theorem segF_some {f : FR} {S S' : Tst} {q : List X} {e0 : Nat} {L D : List Nat} (hG : cx.G.length ≤ 64) (hn : S'.n = L.length) (hr : holdsR (segF cx f S q e0 L D S')) :
    ∃ (l : List Prop) (k : Kc), f.f (frT S) [] (hpT S q) k = some l ∧ ∀ e fr h, k e fr h = some l → e = e0 ∧ (∀ p ∈ h.fa, p) ∧ ∀ w0 a w, At cx (B0 w0 nt) en0 fr [] h a w → TopAt cx nt w0 S' a w := by
  obtain ⟨l, e, hl⟩ := holdsR_some hr
  unfold segF at e
  rw [frmK_eq, bldK_eq] at e
  refine ⟨l, _, e, fun e1 fr h e2 => ?_⟩
  obtain ⟨h1, h2⟩ := cndR_t e2
  obtain ⟨ys, bs, h3, h4⟩ := tidy_ok rfl hG h2
  have h3 := Option.some.inj h3
  subst h3
  have hy : ys = S'.fr := hl _ (List.mem_cons_self ..)
  have hb : bs = S'.bl := hl _ (List.mem_cons_of_mem _ (List.mem_cons_self ..))
  refine ⟨beqT h1, fun p hp => hl p (List.mem_cons_of_mem _ (List.mem_cons_of_mem _ hp)), fun w0 a w hA => ?_⟩
  have := h4 nt w0 a w hA
  rw [hy, hb, ← hn] at this
  exact this
theorem hle0 {w0 : World} {S : Tst} {q : List X} : HLe (B0 w0 nt).fl (B0 w0 nt).h (hpT S q) := ⟨Nat.zero_le _, rfl, fun b hb => absurd hb (Nat.not_lt_zero _), fun p hp => by cases hp⟩
theorem T_seg (hcl : CallsOk P cx.cl) (hmix : P.follows .mixedOrders = true) (hG : cx.G.length ≤ 64) {c : Code} {sc : SCode} (hs : stripCode P c = some sc) (hok : okC nt cx.PV cx.FL sc = true) {S S' : Tst} {q : List X} {e0 : Nat} {L D : List Nat} (hn : S'.n = L.length)
    (hr : holdsR (seg cx sc S q e0 L D S')) : T P cx nt c S (fun e' S2 => ER e0 e' ∧ S2 = S') := by
  obtain ⟨l, k, e, hk⟩ := segF_some (nt := nt) hG hn hr
  obtain ⟨e1, fr', h', g1, g2, g3⟩ := fwd_end hG (exC_ok hcl (draw_ok hcl) hmix hG c sc hs hok (Wf.zero cx) (Nat.zero_le _) e)
  obtain ⟨rfl, hfa, ht⟩ := hk e1 fr' h' g1
  intro w0 a w hA
  refine Code.wp_mono (fun e' a' w' hh => ?_) (g3 hfa (B0 w0 nt) a w rfl hle0 rfl (hA.hp rfl rfl))
  exact ⟨S', ⟨hh.1, rfl⟩, ht w0 a' w' hh.2⟩
theorem itB_ok {c : Code} {f : FR} {k : Kc} {r : List Prop} (hf : ∀ {fr : FX} {h : Hp} {k : Kc} {r : List Prop}, h.fl ≤ h.n → f.f fr [] h k = some r → ∃ e fr' h', k e fr' h' = some r ∧ HLe h.fl h h' ∧ Semc P cx nt c en0 fr [] h en0 fr' [] h' (fun e' => if e = 0 then e' = .normal else ExR e e')) :
    ∀ (m : Nat) {fr : FX} {h : Hp}, h.fl ≤ h.n → (itB f m).f fr [] h k = some r → ∃ e fr' h', k e fr' h' = some r ∧ HLe h.fl h h' ∧
      ((∀ p ∈ h'.fa, p) → ∀ (B : Bs) a w, B.fl = h.fl → HLe B.fl B.h h → B.nt = nt → At cx B en0 fr [] h a w → ∀ (Q : Exit → Act → World → Prop) n, (e = 0 → ∀ a' w', At cx B en0 fr' [] h' a' w' → Code.rounds P c Q n a' w') →
        (e ≠ 0 → ∀ e' a' w', ExR e e' → At cx B en0 fr' [] h' a' w' → Q e' a' w') → Code.rounds P c Q (m + n) a w)
  | 0, fr, h, _, e => ⟨0, fr, h, e, .refl _ _, fun _ B a w _ _ _ hA Q n h1 _ => by rw [Nat.zero_add]; exact h1 rfl a w hA⟩
  | m + 1, fr, h, hfn, e => by
    have e1 : f.f fr [] h (fun e fr h => cndR (Nat.beq e 0) ((itB f m).f fr [] h k) (k e fr h)) = some r := e
    obtain ⟨e0, fr1, h1, g1, g2, g3⟩ := hf hfn e1
    rcases cndR_some g1 with ⟨t, g4⟩ | ⟨t, g4⟩
    · have t := beqT t
      subst t
      obtain ⟨e', fr2, h2, q2, q3, q4⟩ := itB_ok hf m (g2.fln hfn) g4
      refine ⟨e', fr2, h2, q2, g2.tr q3, fun hfa B a w hBf hBh hBn hA Q n hz hnz => ?_⟩
      rw [show m + 1 + n = (m + n) + 1 from by omega, rounds_succ]
      refine Code.wp_mono (fun ex a' w' hh => ?_) (g3 (fun p hp => hfa p (q3.fa p hp)) B a w hBf hBh hBn hA)
      obtain ⟨hh1, hh2⟩ := hh
      simp only [if_true] at hh1
      subst hh1
      exact q4 hfa B a' w' (hBf.trans g2.fe.symm) (hBh.trans (by rw [hBf]; exact g2)) hBn hh2 Q n hz hnz
    · have t := beqF t
      refine ⟨e0, fr1, h1, g4, g2, fun hfa B a w hBf hBh hBn hA Q n hz hnz => ?_⟩
      rw [show m + 1 + n = (m + n) + 1 from by omega, rounds_succ]
      refine Code.wp_mono (fun ex a' w' hh => ?_) (g3 hfa B a w hBf hBh hBn hA)
      obtain ⟨hh1, hh2⟩ := hh
      rw [if_neg t] at hh1
      have hQ := hnz t ex a' w' hh1 hh2
      rcases hh1 with ⟨h5, rfl⟩ | ⟨id, h5, rfl⟩ <;> exact hQ
theorem TR_seg (hcl : CallsOk P cx.cl) (hmix : P.follows .mixedOrders = true) (hG : cx.G.length ≤ 64) {c : Code} {sc : SCode} (hs : stripCode P c = some sc) (hok : okC nt cx.PV cx.FL sc = true) {S S' : Tst} {q : List X} {m e0 : Nat} {L D : List Nat} (hn : S'.n = L.length)
    (hr : holdsR (segR cx sc m S q e0 L D S')) {Q : Exit → Tst → Prop} {n : Nat} (h0 : e0 = 0 → TR P cx nt c S' Q n) (h1 : e0 ≠ 0 → ∀ e', ExR e0 e' → Q e' S') : TR P cx nt c S Q (m + n) := by
  obtain ⟨l, k, e, hk⟩ := segF_some (nt := nt) hG hn hr
  obtain ⟨e1, fr', h', g1, g2, g3⟩ := itB_ok (P := P) (cx := cx) (nt := nt) (c := c) (fun hfn e => fwd_end hG (exC_ok hcl (draw_ok hcl) hmix hG c sc hs hok (Wf.zero cx) hfn e)) m (Nat.zero_le _) e
  obtain ⟨rfl, hfa, ht⟩ := hk e1 fr' h' g1
  intro w0 a w hA
  exact g3 hfa (B0 w0 nt) a w rfl hle0 rfl (hA.hp rfl rfl) _ n (fun h a' w' hA' => h0 h w0 a' w' (ht w0 a' w' hA')) (fun h e' a' w' he hA' => ⟨S', h1 h e' he, ht w0 a' w' hA'⟩)
theorem T.mono {c : Code} {S : Tst} {Q Q' : Exit → Tst → Prop} (h : T P cx nt c S Q) (hq : ∀ e S, Q e S → Q' e S) : T P cx nt c S Q' := fun w0 a w hA =>
  Code.wp_mono (fun e a w ⟨S', h1, h2⟩ => ⟨S', hq e S' h1, h2⟩) (h w0 a w hA)
theorem T_loop {c : Code} {S : Tst} {Q : Exit → Tst → Prop} {n : Nat} (h : TR P cx nt c S Q n) : T P cx nt (.loop c) S Q := fun w0 a w hA => wp_loop_rounds n (h w0 a w hA)
theorem T_seq {x y : Code} {S : Tst} {Q1 Q : Exit → Tst → Prop} (hx : T P cx nt x S Q1) (hy : ∀ S1, Q1 .normal S1 → T P cx nt y S1 Q) (he : ∀ e S1, e ≠ .normal → Q1 e S1 → Q e S1) : T P cx nt (.seq x y) S Q := fun w0 a w hA =>
  wp_seq (Code.wp_mono (fun e a w ⟨S', h1, h2⟩ => by
    cases e with
    | normal => exact hy S' h1 w0 a w h2
    | _ => exact ⟨S', he _ S' (by simp) h1, h2⟩) (hx w0 a w hA))
theorem T_block {id : Nat} {c : Code} {S : Tst} {Q1 Q : Exit → Tst → Prop} (hx : T P cx nt c S Q1) (h0 : ∀ S1, Q1 .normal S1 ∨ Q1 (.exit id) S1 → Q .normal S1) (he : ∀ e S1, e ≠ .normal → e ≠ .exit id → Q1 e S1 → Q e S1) : T P cx nt (.block id c) S Q := fun w0 a w hA =>
  wp_block (Code.wp_mono (fun e a w ⟨S', h1, h2⟩ => by
    cases e with
    | normal => exact ⟨S', h0 S' (.inl h1), h2⟩
    | exit id' =>
      show if id' = id then _ else _
      by_cases e2 : id' = id
      · subst e2; rw [if_pos rfl]; exact ⟨S', h0 S' (.inr h1), h2⟩
      · rw [if_neg e2]; exact ⟨S', he _ S' (by simp) (by simpa using e2) h1, h2⟩
    | _ => exact ⟨S', he _ S' (by simp) (by simp) h1, h2⟩) (hx w0 a w hA))
theorem T_cond {c : Operand} {x y : Code} {S : Tst} {Q : Exit → Tst → Prop} {t : Ac} (b : Bool) (hc : acOf cx en0 c = some t) (hn : (t.g (frT S) []).n = cnd b 33 1) (h : T P cx nt (if b then x else y) S Q) : T P cx nt (.cond c x y) S Q := fun w0 a w hA => by
  have ⟨V, γ, hs⟩ := hA
  have hd : den V (t.g (frT S) []) (a.eval c) := acOf_den (LT := tmpOf c) (Wf.zero cx) (fun k _ sv hk => hs.tm k sv hk) (fun j hj => hj) hc
  cases b with
  | true => exact wp_cond_split (den_boolT hn hd) (fun _ => h w0 a w hA) (fun h => by cases h)
  | false => exact wp_cond_split (den_boolF hn hd) (fun h => by cases h) (fun _ => h w0 a w hA)
theorem strip_seq {c : Code} {x y : SCode} (h : stripCode P c = some (.seq x y)) : ∃ a b, c = .seq a b ∧ stripCode P a = some x ∧ stripCode P b = some y := by
  cases c <;> simp only [stripCode] at h <;> (try (split at h)) <;> (try (split at h)) <;> simp at h
  obtain ⟨rfl, rfl⟩ := h
  exact ⟨_, _, rfl, by assumption, by assumption⟩
theorem strip_loop {c : Code} {x : SCode} (h : stripCode P c = some (.loop x)) : ∃ a, c = .loop a ∧ stripCode P a = some x := by
  cases c <;> simp only [stripCode] at h <;> (try (split at h)) <;> (try (split at h)) <;> simp at h
  subst h
  exact ⟨_, rfl, by assumption⟩
theorem strip_block {c : Code} {id : Nat} {x : SCode} (h : stripCode P c = some (.block id x)) : ∃ a, c = .block id a ∧ stripCode P a = some x := by
  cases c <;> simp only [stripCode] at h <;> (try (split at h)) <;> (try (split at h)) <;> simp at h
  obtain ⟨rfl, rfl⟩ := h
  exact ⟨_, rfl, by assumption⟩
theorem strip_cond {c : Code} {o : Operand} {x y : SCode} (h : stripCode P c = some (.cond o x y)) : ∃ a b, c = .cond o a b ∧ stripCode P a = some x ∧ stripCode P b = some y := by
  cases c <;> simp only [stripCode] at h <;> (try (split at h)) <;> (try (split at h)) <;> simp at h
  obtain ⟨rfl, rfl, rfl⟩ := h
  exact ⟨_, _, rfl, by assumption, by assumption⟩
theorem strip_sq {c : Code} {sc x y : SCode} (h : stripCode P c = some sc) (e : sc = .seq x y) : ∃ a b, c = .seq a b ∧ stripCode P a = some x ∧ stripCode P b = some y := strip_seq (h.trans (congrArg some e))
structure Pt (P : Program) (F : Fun) (nt : Nat) (c : Code) (sc : SCode) : Prop where
  st : stripCode P c = some sc
  ok : okC nt F.PV F.FL sc = true
theorem Pt.sq {F : Fun} {c : Code} {sc : SCode} (h : Pt P F nt c sc) (e : sc = .seq (sL sc) (sR sc)) : ∃ a b, c = .seq a b ∧ Pt P F nt a (sL sc) ∧ Pt P F nt b (sR sc) := by
  obtain ⟨a, b, h1, h2, h3⟩ := strip_seq (h.st.trans (congrArg some e))
  have h4 := h.ok
  rw [e] at h4
  simp only [okC, Bool.and_eq_true] at h4
  exact ⟨a, b, h1, ⟨h2, h4.1⟩, ⟨h3, h4.2⟩⟩
theorem Pt.bk {F : Fun} {c : Code} {sc : SCode} {id : Nat} (h : Pt P F nt c sc) (e : sc = .block id (sB sc)) : ∃ a, c = .block id a ∧ Pt P F nt a (sB sc) := by
  obtain ⟨a, h1, h2⟩ := strip_block (h.st.trans (congrArg some e))
  have h4 := h.ok
  rw [e] at h4
  simp only [okC] at h4
  exact ⟨a, h1, ⟨h2, h4⟩⟩
theorem Pt.lp {F : Fun} {c : Code} {sc : SCode} (h : Pt P F nt c sc) (e : sc = .loop (sB sc)) : ∃ a, c = .loop a ∧ Pt P F nt a (sB sc) := by
  obtain ⟨a, h1, h2⟩ := strip_loop (h.st.trans (congrArg some e))
  have h4 := h.ok
  rw [e] at h4
  simp only [okC] at h4
  exact ⟨a, h1, ⟨h2, h4⟩⟩
theorem Pt.cd {F : Fun} {c : Code} {sc : SCode} {o : Operand} (h : Pt P F nt c sc) (e : sc = .cond o (sT sc) (sE sc)) : ∃ a b, c = .cond o a b ∧ Pt P F nt a (sT sc) ∧ Pt P F nt b (sE sc) := by
  obtain ⟨a, b, h1, h2, h3⟩ := strip_cond (h.st.trans (congrArg some e))
  have h4 := h.ok
  rw [e] at h4
  simp only [okC, Bool.and_eq_true] at h4
  exact ⟨a, b, h1, ⟨h2, h4.1⟩, ⟨h3, h4.2⟩⟩
theorem ER0 {e : Exit} (h : ER 0 e) : e = .normal := h
theorem ER.ne {n : Nat} {e : Exit} (h : ER n e) (hn : n ≠ 0) : ExR n e := by unfold ER at h; rwa [if_neg hn] at h
theorem ExR.ret {e : Exit} (h : ExR 1 e) : e = .ret := by
  rcases h with ⟨_, h⟩ | ⟨id, h, _⟩
  · exact h
  · omega
theorem ExR.exit {id : Nat} {e : Exit} (h : ExR (id + 2) e) : e = .exit id := by
  rcases h with ⟨h, _⟩ | ⟨id', h, h'⟩
  · omega
  · have : id' = id := by omega
    rw [h', this]
def At1 (e0 : Nat) (S' : Tst) : Exit → Tst → Prop := fun e S => ER e0 e ∧ S = S'
theorem T_then {x y : Code} {S S' : Tst} {Q : Exit → Tst → Prop} (hx : T P cx nt x S (At1 0 S')) (hy : T P cx nt y S' Q) : T P cx nt (.seq x y) S Q :=
  T_seq hx (fun S1 h => h.2 ▸ hy) (fun e S1 hne h => absurd (ER0 h.1) hne)
theorem T_bl {c : Code} {S S' : Tst} {id n : Nat} (h : TR P cx nt c S (At1 (id + 2) S') n) : T P cx nt (.block id (.loop c)) S (At1 0 S') :=
  T_block (T_loop h) (fun S1 h => by
    rcases h with h | h
    · have := (h.1.ne (by omega)).exit; cases this
    · exact ⟨rfl, h.2⟩) (fun e S1 h0 h1 h => absurd (h.1.ne (by omega)).exit h1)
section
variable {cl : Nat → FC} {F : Fun}
theorem sg (hcl : CallsOk P cl) (hmix : P.follows .mixedOrders = true) (hG : F.G.length ≤ 64) {c : Code} {sc : SCode} (hp : Pt P F nt c sc) {S S' : Tst} {q : List X} {e0 : Nat} {L D : List Nat} (hn : S'.n = L.length)
    (hr : holdsR (seg (cxF cl F) sc S q e0 L D S')) : T P (cxF cl F) nt c S (At1 e0 S') := T_seg hcl hmix hG hp.st hp.ok hn hr
theorem rd0 (hcl : CallsOk P cl) (hmix : P.follows .mixedOrders = true) (hG : F.G.length ≤ 64) {c : Code} {sc : SCode} (hp : Pt P F nt c sc) {S S' : Tst} {q : List X} {m : Nat} {L D : List Nat} (hn : S'.n = L.length)
    (hr : holdsR (segR (cxF cl F) sc m S q 0 L D S')) {Q : Exit → Tst → Prop} {n : Nat} (h0 : TR P (cxF cl F) nt c S' Q n) : TR P (cxF cl F) nt c S Q (m + n) :=
  TR_seg hcl hmix hG hp.st hp.ok hn hr (fun _ => h0) (fun h => absurd rfl h)
theorem rdE (hcl : CallsOk P cl) (hmix : P.follows .mixedOrders = true) (hG : F.G.length ≤ 64) {c : Code} {sc : SCode} (hp : Pt P F nt c sc) {S S' : Tst} {q : List X} {m e0 : Nat} {L D : List Nat} (hn : S'.n = L.length)
    (hr : holdsR (segR (cxF cl F) sc m S q (e0 + 1) L D S')) : TR P (cxF cl F) nt c S (At1 (e0 + 1) S') (m + 0) :=
  TR_seg hcl hmix hG hp.st hp.ok hn hr (fun h => by cases h) (fun hne e' he => ⟨by unfold ER; rw [if_neg hne]; exact he, rfl⟩)
end
end
end
end Go.M
namespace Go.M
open Go
open Go.Eng (SOp SOper SCode stripCode)
noncomputable section
variable [Ctxt]
theorem slot_fr0 (j : Nat) : slotX fr0 j = xU := by
  show (get4 tr2.get 4 5 j).g (f4 _) = _
  rw [get_f4]
  show (get4 tr1.get 2 3 j).g (f4 _) = _
  rw [get_f4]
  show (get4 tree0.get 0 1 j).g (f4 _) = _
  rw [get_f4]; rfl
def finR (cx : Cx) (res : List SRes) (S : Tst) : R := frmK S.fr 0 fr0 fun fr => (resB cx res).f fr (hpT S []) fun ys => rcL ys none fun y t => rcL t (cndR (Nat.beq y.n 33) (some []) none) fun _ _ => none
variable {P : Program}
theorem law_T {cl : Nat → FC} {g : FuncId} {F : Fun} (hcl : CallsOk P cl) (hF : FnM P g F) (hok : okF F = true) {xs : List X} (hlen : xs.length = F.na) {Q : Exit → Tst → Prop}
    (hT : ∀ c nt, Pt P F nt c F.sc → P.follows .mixedOrders = true → F.G.length ≤ 64 → T P (cxF cl F) nt c ⟨xs, 0, []⟩ Q)
    (hQ : ∀ e S, Q e S → (e = .normal ∨ e = .ret) ∧ holdsR (finR (cxF cl F) F.res S)) {vals : Array Value} (hv : denL Vz xs vals.toList) (w : World) (hΦ : Ctxt.Φ w) :
    Calls P g vals w fun e w' => e = .returned (.bool true) ∧ Go.RowKit.Below w.heap.size w w' := by
  simp only [okF, Bool.and_eq_true, List.all_eq_true] at hok
  obtain ⟨ho1, ho2, ho3, ho4, ho5⟩ := hok
  generalize hcx : cxF cl F = cx at hT hQ
  have hc2 : cx.G = F.G := by subst hcx; rfl
  have hc3 : cx.PV = F.PV := by subst hcx; rfl
  have hG64 : F.G.length ≤ 64 := bleT ho3
  have hna : F.na ≤ 8 := bleT ho4
  obtain ⟨⟨fn, c, q1, q2, q3, q4, q5, q6, q7, q8⟩, hmix⟩ := hF
  have hT := hT c fn.ntmps ⟨q4, q8⟩ hmix hG64
  have hvl : vals.size = F.na := by have := denL_length hv; simp at this; omega
  have hslot : ∀ j, j < 64 → slotX (frT ⟨xs, 0, []⟩) j = if j < F.na then xs.getD j xBad else xU := fun j hj => by
    show slotX (frmT xs 0 fr0) j = _
    rw [frmT_get xs 0 fr0 j (by omega) hj, if_neg (by omega), Nat.sub_zero, slot_fr0, List.getD_eq_getElem?_getD]
    by_cases h : j < F.na
    · rw [if_pos h, List.getElem?_eq_getElem (by omega)]; rfl
    · rw [if_neg h, List.getElem?_eq_none (by omega)]
  have hm : MR w Vz (hpT ⟨xs, 0, []⟩ []) w := ⟨fun b hb => hb.elim, fun b hb => hb.elim, fun b b' hb => hb.elim, fun b hb => hb.elim, fun _ _ => rfl, Nat.le_refl _, rfl, rfl, rfl, hΦ⟩
  have hA : TopAt cx fn.ntmps w ⟨xs, 0, []⟩ { tmps := vals ++ Array.replicate (fn.ntmps - vals.size) undef, defers := [] } w := by
    have hstC : ∀ p, staC cx en0 (frT ⟨xs, 0, []⟩) [] p = none := fun p => by
      show (if mem cx.PV p = true then match ix cx.G p with
        | some j => if (slotX (frT ⟨xs, 0, []⟩) j).n = 14 then none else some (slotX (frT ⟨xs, 0, []⟩) j)
        | none => none
        else none) = none
      split
      · rename_i hpv
        cases hj : ix cx.G p with
        | none => rfl
        | some j =>
          have hgj := ix_get hj
          have hj64 : j < 64 := Nat.lt_of_lt_of_le (List.getElem?_eq_some_iff.1 hgj).1 (hc2 ▸ hG64)
          have hpna : F.na ≤ p := bleT (ho5 p ((mem_iff F.PV p).1 (by rw [← hc3]; exact hpv)))
          have hjn : ¬ j < F.na := fun hlt => by
            have := okG_get ho1 j hlt
            rw [hc2, this] at hgj
            simp only [Option.some.injEq] at hgj
            omega
          simp only [hslot j hj64, if_neg hjn, if_true]
      · rfl
    refine ⟨Vz, fun _ => 0, hm, .refl .., fun k' sv hk => ?_, fun p y hp => ?_, fun p q y z hp => ?_, rfl, ?_, Nat.le_refl _⟩
    · have hk' : (if mem cx.PV k' = true then (match staC cx en0 (frT ⟨xs, 0, []⟩) [] k' with
        | some _ => some (SV.ptr k' 0 true)
        | none => none) else match ix cx.G k' with
          | some j => some (SV.val (slotX (frT ⟨xs, 0, []⟩) j))
          | none => none) = some sv := hk
      rw [hstC] at hk'
      split at hk'
      · cases hk'
      · cases hj : ix cx.G k' with
        | none => rw [hj] at hk'; cases hk'
        | some j =>
          rw [hj] at hk'
          simp only [Option.some.injEq] at hk'
          subst hk'
          have hgj := ix_get hj
          have hj64 : j < 64 := Nat.lt_of_lt_of_le (List.getElem?_eq_some_iff.1 hgj).1 (hc2 ▸ hG64)
          show den Vz (slotX (frT ⟨xs, 0, []⟩) j) ((vals ++ Array.replicate (fn.ntmps - vals.size) undef).getD k' undef)
          rw [hslot j hj64]
          by_cases hlt : j < F.na
          · rw [if_pos hlt]
            have := okG_get ho1 j hlt
            rw [hc2, this] at hgj
            simp only [Option.some.injEq, Nat.zero_add] at hgj
            subst hgj
            obtain ⟨v, h1, h2⟩ := denL_get hv (i := j) (x := xs.getD j xBad) (by rw [List.getD_eq_getElem?_getD, List.getElem?_eq_getElem (by omega)]; rfl)
            have hvj : vals[j]? = some v := by simpa using h1
            rw [Array.getD_eq_getD_getElem?, Array.getElem?_append, if_pos (by omega), hvj]
            exact h2
          · rw [if_neg hlt]
            have hkn : ¬ k' < F.na := fun hk => by
              have h1 := okG_get ho1 k' hk
              rw [Nat.zero_add] at h1
              have h2 := nodup_ix ho2 h1
              rw [← hc2, hj] at h2
              simp only [Option.some.injEq] at h2
              omega
            have : (vals ++ Array.replicate (fn.ntmps - vals.size) undef).getD k' undef = undef := by
              rw [Array.getD_eq_getD_getElem?, Array.getElem?_append, if_neg (by omega)]
              rcases Nat.lt_or_ge (k' - vals.size) (fn.ntmps - vals.size) with hh | hh
              · simp [hh]
              · rw [Array.getElem?_eq_none (by simpa using hh)]; rfl
            rw [this]
            exact den_xU
    · have hp' : staC cx en0 (frT ⟨xs, 0, []⟩) [] p = some y := hp
      rw [hstC] at hp'; cases hp'
    · have hp' : staC cx en0 (frT ⟨xs, 0, []⟩) [] p = some y := hp
      rw [hstC] at hp'; cases hp'
    · show (vals ++ Array.replicate (fn.ntmps - vals.size) undef).size = fn.ntmps
      simp only [Array.size_append, Array.size_replicate]
      omega
  refine calls_of_wp q1 q3 (Code.wp_mono (fun ex a' w' hh => ?_) (hT w _ w hA))
  obtain ⟨S', h1, V', γ', hS⟩ := hh
  obtain ⟨h2, h3⟩ := hQ ex S' h1
  obtain ⟨l, e, _⟩ := holdsR_some h3
  unfold finR at e
  rw [frmK_eq] at e
  obtain ⟨ys, e2, hys⟩ := resB_some fn.results.toList q5 e
  obtain ⟨y, rfl, hy⟩ : ∃ y, ys = [y] ∧ y.n = 33 := by
    match ys, e2 with
    | [y], e2 => exact ⟨y, rfl, beqT (cndR_t (show cndR (Nat.beq y.n 33) (some []) none = some l from e2)).1⟩
  obtain ⟨vs, z1, z2, z3⟩ := hys (B0 w fn.ntmps) V' γ' a' w' hS
  obtain ⟨v, r', rfl, z4, z5⟩ := denL_cons.1 z2
  have := denL_nil.1 z5
  subst this
  have hb := den_boolT hy z4
  have hfin : a'.defers = [] ∧ ∃ v', (results fn a'.tmps).run P w' = .ok v' w' ∧ Ending.returned v' = .returned (.bool true) ∧ Go.RowKit.Below w.heap.size w w' :=
    ⟨hS.df, v, by have := results_eq a'.tmps w' rfl z1 q6 z3; simpa using this, by rw [hb], ⟨hS.mr.os, hS.mr.tape, hS.mr.output, hS.mr.sz, fun k hk => hS.mr.old k hk⟩⟩
  rcases h2 with rfl | rfl <;> exact hfin
end
end Go.M
namespace Go.M
open Go
open Go.Eng (SOp SOper SCode stripCode)
noncomputable section
variable [Ctxt]
def clAtH (hk : Nat → FC) (code : Nat → Option Fun) (l : Nat) : Nat → FC := @Nat.rec (fun _ => Nat → FC) hk
  (fun l ih g => @Option.rec Fun (fun _ => FC) (hk g) (fun F => cnd (lvB F.lev l) (exF ih F) (ih g)) (code g)) l
theorem clAtH_ok {P : Program} {hk : Nat → FC} {code : Nat → Option Fun} (hh : CallsOk P hk) (hc : ∀ g F, code g = some F → FnM P g F) : ∀ l, CallsOk P (clAtH hk code l)
  | 0 => hh
  | l + 1 => fun g => by
    have ih := clAtH_ok hh hc l
    show FcOk P g (@Option.rec Fun (fun _ => FC) (hk g) (fun F => cnd (lvB F.lev l) (exF (clAtH hk code l) F) (clAtH hk code l g)) (code g))
    cases hg : code g with
    | none => exact hh g
    | some F =>
      show FcOk P g (cnd (lvB F.lev l) (exF (clAtH hk code l) F) (clAtH hk code l g))
      cases lvB F.lev l with
      | true => exact exF_ok ih (fun cx nt hcx => draw_ok (hcx ▸ ih)) (hc g F hg)
      | false => exact ih g
theorem fcN_ok {P : Program} {g : Nat} : FcOk P g fcN := fun xs h k r _ e => by cases e
theorem pasted_one {cells : Array Value} {off : Nat} {v : Value} (h : off + 1 ≤ cells.size) : Go.Eng.pasted cells off #[v] = cells.setIfInBounds off v := by
  apply Array.ext_getElem?
  intro i
  rw [Go.Eng.pasted_get _ _ _ (by simpa using h), Array.getElem?_setIfInBounds]
  simp only [List.size_toArray, List.length_cons, List.length_nil]
  by_cases h1 : off = i
  · subst h1
    rw [if_neg (by omega), if_pos (by omega), if_pos rfl, if_pos (by omega)]; simp
  · rw [if_neg h1]
    by_cases h2 : i < off
    · rw [if_pos h2]
    · rw [if_neg h2, if_neg (by omega)]
theorem cell1_some {x y : X} {h : Hp} {k : Kx} {r} (e : xStore 1 x y h k = some r) : ∃ h', k xU h' = some r ∧ HLe h.fl h h' ∧ ∀ w0 V w u v, MR w0 V h w → den V x u → den V y v → v.cells = #[v] → one v →
    ∃ a c, u = .pointer (some a) ∧ w.cell? a = some c ∧ w.frozen? a = false ∧ MR w0 V h' (w.setCell a v) ∧ Stp h.fl V h w V (w.setCell a v) := by
  obtain ⟨t, e1⟩ := ptrO_some e
  obtain ⟨ys, e2, hys⟩ := cellsK_some e1
  obtain ⟨t1, e3⟩ := cndR_t e2
  have t1 := beqT t1
  rw [lenL_eq] at t1
  obtain ⟨bn, rows, hg, hk, e4⟩ := rowsK_some e3
  generalize hbe : x.n / 32 / 1048576 = bb at *
  generalize hoe : x.n / 32 % 1048576 = off at *
  have e5 : (nthB (Nat.div off (bn / 32))).f rows (fun row => opn row fun rn cells _ =>
    (splB (Nat.mod off (bn / 32))).f cells ys fun cells => (setB (Nat.div off (bn / 32))).f rows ⟨rn, cells, oZ⟩ fun rows => putK bb ⟨bn, rows, oZ⟩ h fun h => k xU h) = some r := e4
  obtain ⟨row, hq, e6⟩ := nthB_some e5
  rw [opn_eq] at e6
  obtain ⟨hj, e7⟩ := splB_some e6
  obtain ⟨hql, e8⟩ := setB_some e7
  obtain ⟨hfl, hb', e9⟩ := putK_some e8
  refine ⟨_, e9, .put hfl hb', fun w0 V w u v hm hx hv hvc hv1 => ?_⟩
  obtain ⟨hb, hx⟩ := (den7 t).1 hx
  rw [hbe, hoe] at hx
  rw [hbe] at hb
  obtain ⟨hl, h1⟩ := hys V _ hv
  obtain ⟨_, h2, h3, h4, h5, cells, cty, h6, h7, hR⟩ := hm.rows hb hg hk
  rw [h2] at e9 e8 e7 e6 e5 e4 hj hql hq ⊢
  have hoff : off = Nat.div off (V.ε bb) * V.ε bb + Nat.mod off (V.ε bb) := (Nat.div_add_mod' off _).symm
  obtain ⟨_, hrl, _⟩ := hR _ row hq
  have hfit : off + 1 ≤ cells.size := by
    rw [h7]
    have : (Nat.div off (V.ε bb) + 1) * V.ε bb ≤ rows.length * V.ε bb := Nat.mul_le_mul_right _ hql
    rw [Nat.add_mul, Nat.one_mul] at this
    omega
  have hpr := hR.paste hq hj hl h1 (by rw [← hoff, hvc]; exact hfit) oZ
  rw [← hoff, hvc, pasted_one hfit] at hpr
  have hs := heap_setCell_same w (V.ρ bb) off cells cty v h6
  obtain ⟨h8, h9⟩ := hm.turn (fl := h.fl) (w' := w.setCell ⟨V.ρ bb, off, none⟩ v) (o' := oZ) hb hfl hg hk (fun k hk => heap_setCell_other w ⟨V.ρ bb, off, none⟩ k v hk) (by simp [World.setCell]; try (split <;> simp)) (by simp [World.setCell]; try (split <;> rfl)) (by simp [World.setCell]; try (split <;> rfl)) (by simp [World.setCell]; try (split <;> rfl)) hs (by simpa using h7) (by simp) hpr
  refine ⟨_, cells[off], hx, ?_, ?_, h8, h9⟩
  · simp only [World.cell?, h6]
    simp
  · simp [World.frozen?, h6]
theorem get1_some {x : X} {h : Hp} {k : Kx} {r} (e : xLoad false 1 x h k = some r) : ∃ c, k c h = some r ∧ ∀ w0 V w u, MR w0 V h w → den V x u → ∃ a v, u = .pointer (some a) ∧ w.cell? a = some v ∧ w.frozen? a = false ∧ den V c v := by
  obtain ⟨t, e1⟩ := ptrO_some e
  obtain ⟨bn, rows, hg, hk, e2⟩ := rowsK_some e1
  generalize hbe : x.n / 32 / 1048576 = b at *
  generalize hoe : x.n / 32 % 1048576 = off at *
  have e3 : (nthB (Nat.div off (bn / 32))).f rows (fun row => opn row fun rn cells _ =>
    cndR false (cndR (Nat.beq 1 (bn / 32)) (cndR (Nat.beq (Nat.mod off (bn / 32)) 0) (k ⟨rn, cells, oZ⟩ h) none) ((dropB (Nat.mod off (bn / 32))).f cells fun c => (takeB 1).f c fun c => k ⟨Nat.add (Nat.mul 32 1) 2, c, oZ⟩ h))
      ((nthB (Nat.mod off (bn / 32))).f cells fun c => xMov c h k)) = some r := e2
  obtain ⟨row, hq, e4⟩ := nthB_some e3
  rw [opn_eq] at e4
  have e5 : ((nthB (Nat.mod off (bn / 32))).f row.l fun c => xMov c h k) = some r := e4
  obtain ⟨c, hc, e6⟩ := nthB_some e5
  rw [xMov_eq] at e6
  refine ⟨c, e6, fun w0 V w u hm hx => ?_⟩
  obtain ⟨hb, hx⟩ := (den7 t).1 hx
  rw [hbe, hoe] at hx
  rw [hbe] at hb
  obtain ⟨_, h2, _, _, _, cells, ty, h5, _, h6⟩ := hm.rows hb hg hk
  rw [← h2] at h6
  obtain ⟨_, _, h7⟩ := h6 _ row hq
  obtain ⟨v, h8, _, h9⟩ := h7 _ c hc
  refine ⟨_, v, hx, ?_, by simp [World.frozen?, h5], h9⟩
  simp only [World.cell?, h5]
  have : Nat.div off (bn / 32) * (bn / 32) + Nat.mod off (bn / 32) = off := Nat.div_add_mod' off _
  rw [this] at h8
  simpa using h8
def fcStore : FC := ⟨fun xs h k => rcL xs none fun p t => rcL t none fun v t2 => rcL t2 (cndR (Nat.beq (Nat.land v.n 31) 0) (xStore 1 p v h fun _ h => k ⟨3, [], oZ⟩ h) none) fun _ _ => none⟩
def fcLoad : FC := ⟨fun xs h k => rcL xs none fun p t => rcL t (xLoad false 1 p h fun x h => cndR (Nat.beq (Nat.land x.n 31) 0) (k x h) none) fun _ _ => none⟩
def fcCas : FC := ⟨fun xs h k => rcL xs none fun p t => rcL t none fun o t2 => rcL t2 none fun y t3 => rcL t3 (xLoad false 1 p h fun x h => cndR (Nat.beq (Nat.land x.n 31) 0) (cndR (Nat.beq (Nat.land o.n 31) 0) (cndR (Nat.beq (Nat.land y.n 31) 0)
  (cndR (Nat.beq x.n o.n) (xStore 1 p y h fun _ h => k xT h) (k xF h)) none) none) none) fun _ _ => none⟩
section
variable {P : Program} {f : Nat}
theorem fcStore_ok (hE : Enters P f) (hc : ∀ (a : Addr) (x : Value) (v : Int) (w : World), w.cell? a = some x → w.frozen? a = false → Calls P f #[.pointer (some a), .int .i64 v] w fun e w' => e = .returned (.tuple #[]) ∧ w' = w.setCell a (.int .i64 v)) : FcOk P f fcStore := fun xs h k r _ e => by
  match xs, e with
  | [p, v], e =>
    obtain ⟨t, e1⟩ := cndR_t (show cndR (Nat.beq (Nat.land v.n 31) 0) (xStore 1 p v h fun _ h => k ⟨3, [], oZ⟩ h) none = some r from e)
    have t : v.n % 32 = 0 := by rw [← land31]; exact beqT t
    obtain ⟨h', e2, h2, h3⟩ := cell1_some e1
    refine ⟨_, h', e2, h2, fun _ w0 V w vals hm hv => ⟨hE, ?_⟩⟩
    obtain ⟨u, r1, hv1, d1, hv2⟩ := denL_cons.1 hv
    obtain ⟨u2, r2, rfl, d2, hv3⟩ := denL_cons.1 hv2
    have := denL_nil.1 hv3
    subst this
    have hvals : vals = #[u, u2] := Array.toList_inj.1 (by simpa using hv1)
    subst hvals
    have h0 := (den0 t).1 d2
    subst h0
    obtain ⟨a, c, rfl, h4, h5, h6, h7⟩ := h3 w0 V w u _ hm d1 d2 rfl rfl
    refine (hc a c _ w h4 h5).mono fun e w' ⟨he, hw⟩ => ?_
    subst hw
    exact ⟨_, V, he, h6, (den3 (x := ⟨3, [], oZ⟩) rfl).2 ⟨[], rfl, denL_nil.2 rfl⟩, h7⟩
theorem fcLoad_ok (hE : Enters P f) (hc : ∀ (a : Addr) (x : Int) (w : World), w.cell? a = some (.int .i64 x) → Calls P f #[.pointer (some a)] w fun e w' => e = .returned (.int .i64 x) ∧ w' = w) : FcOk P f fcLoad := fun xs h k r _ e => by
  match xs, e with
  | [p], e =>
    obtain ⟨c, e1, h1⟩ := get1_some (show (xLoad false 1 p h fun x h => cndR (Nat.beq (Nat.land x.n 31) 0) (k x h) none) = some r from e)
    obtain ⟨t, e2⟩ := cndR_t e1
    have t : c.n % 32 = 0 := by rw [← land31]; exact beqT t
    refine ⟨_, h, e2, .refl _ _, fun _ w0 V w vals hm hv => ⟨hE, ?_⟩⟩
    obtain ⟨u, r1, hv1, d1, hv2⟩ := denL_cons.1 hv
    have := denL_nil.1 hv2
    subst this
    have hvals : vals = #[u] := Array.toList_inj.1 (by simpa using hv1)
    subst hvals
    obtain ⟨a, v, rfl, h4, h5, h6⟩ := h1 w0 V w u hm d1
    have h0 := (den0 t).1 h6
    subst h0
    refine (hc a _ w h4).mono fun e w' ⟨he, hw⟩ => ?_
    subst hw
    exact ⟨_, V, he, hm, h6, .refl ..⟩
theorem fcCas_ok (hE : Enters P f) (hc : ∀ (a : Addr) (x o y : Int) (w : World), w.cell? a = some (.int .i64 x) → w.frozen? a = false → Calls P f #[.pointer (some a), .int .i64 o, .int .i64 y] w fun e w' => e = .returned (.bool (x == o)) ∧ w' = if x = o then w.setCell a (.int .i64 y) else w) : FcOk P f fcCas := fun xs h k r _ e => by
  match xs, e with
  | [p, o, y], e =>
    obtain ⟨c, e1, h1⟩ := get1_some (show (xLoad false 1 p h fun x h => cndR (Nat.beq (Nat.land x.n 31) 0) (cndR (Nat.beq (Nat.land o.n 31) 0) (cndR (Nat.beq (Nat.land y.n 31) 0)
      (cndR (Nat.beq x.n o.n) (xStore 1 p y h fun _ h => k xT h) (k xF h)) none) none) none) = some r from e)
    obtain ⟨t1, e2⟩ := cndR_t e1
    obtain ⟨t2, e3⟩ := cndR_t e2
    obtain ⟨t3, e4⟩ := cndR_t e3
    have t1 : c.n % 32 = 0 := by rw [← land31]; exact beqT t1
    have t2 : o.n % 32 = 0 := by rw [← land31]; exact beqT t2
    have t3 : y.n % 32 = 0 := by rw [← land31]; exact beqT t3
    have split : ∀ {V} {vals : Array Value}, denL V [p, o, y] vals.toList → ∃ u, vals = #[u, .int .i64 (Int.ofNat (o.n / 32)), .int .i64 (Int.ofNat (y.n / 32))] ∧ den V p u := fun {V vals} hv => by
      obtain ⟨u, r1, hv1, d1, hv2⟩ := denL_cons.1 hv
      obtain ⟨u2, r2, rfl, d2, hv3⟩ := denL_cons.1 hv2
      obtain ⟨u3, r3, rfl, d3, hv4⟩ := denL_cons.1 hv3
      have := denL_nil.1 hv4
      subst this
      have hvals : vals = #[u, u2, u3] := Array.toList_inj.1 (by simpa using hv1)
      exact ⟨u, by rw [hvals, (den0 t2).1 d2, (den0 t3).1 d3], d1⟩
    rcases cndR_some e4 with ⟨t, e5⟩ | ⟨t, e5⟩
    · have t := beqT t
      obtain ⟨h', e6, h2, h3⟩ := cell1_some e5
      refine ⟨_, h', e6, h2, fun _ w0 V w vals hm hv => ⟨hE, ?_⟩⟩
      obtain ⟨u, rfl, d1⟩ := split hv
      obtain ⟨a, v, rfl, h4, h5, h6⟩ := h1 w0 V w u hm d1
      have h0 := (den0 t1).1 h6
      subst h0
      obtain ⟨a', c', ha, g4, g5, g6, g7⟩ := h3 w0 V w _ (.int .i64 (Int.ofNat (y.n / 32))) hm d1 ((den0 t3).2 rfl) rfl rfl
      cases ha
      refine (hc a _ _ _ w h4 h5).mono fun e w' ⟨he, hw⟩ => ?_
      rw [t] at he hw
      rw [if_pos rfl] at hw
      subst hw
      exact ⟨_, V, he, g6, by simp; exact den_xT, g7⟩
    · have t := beqF t
      refine ⟨_, h, e5, .refl _ _, fun _ w0 V w vals hm hv => ⟨hE, ?_⟩⟩
      obtain ⟨u, rfl, d1⟩ := split hv
      obtain ⟨a, v, rfl, h4, h5, h6⟩ := h1 w0 V w u hm d1
      have h0 := (den0 t1).1 h6
      subst h0
      have hne : ¬ (Int.ofNat (c.n / 32) = Int.ofNat (o.n / 32)) := fun e => by
        have : c.n / 32 = o.n / 32 := Int.ofNat.inj e
        omega
      refine (hc a _ _ _ w h4 h5).mono fun e w' ⟨he, hw⟩ => ?_
      rw [if_neg hne] at hw
      subst hw
      refine ⟨_, V, he, hm, ?_, .refl ..⟩
      rw [show (Int.ofNat (c.n / 32) == Int.ofNat (o.n / 32)) = false from beq_eq_false_iff_ne.2 hne]
      exact (den1 (x := xF) rfl).2 rfl
end
end
end Go.M
namespace Go.M
open Go
open Go.Eng (SOp SOper SCode stripCode)
noncomputable section
variable [Ctxt]
def endB (cx : Cx) (res : List SRes) : Kc := fun e fr h => cndR (Nat.ble e 1) ((resB cx res).f fr h fun ys => rcL ys none fun y t => rcL t (cndR (Nat.beq y.n 33) (some h.fa) none) fun _ _ => none) none
def segE (cx : Cx) (res : List SRes) (sc : SCode) (S : Tst) (q : List X) : R := frmK S.fr 0 fr0 fun fr => bldK S.bl 0 fxZ fun t => (exC cx sc en0 (endR cx 0)).f fr [] ⟨S.n, 0, t, [], q⟩ (endB cx res)
section
variable {P : Program} {F : Fun} {nt : Nat}
def TE (P : Program) (cx : Cx) (nt : Nat) (res : List SRes) (c : Code) (S : Tst) : Prop := ∀ w0 a w, TopAt cx nt w0 S a w → c.wp P (fun e' a' w' => (e' = .normal ∨ e' = .ret) ∧ ∃ fr h, At cx (B0 w0 nt) en0 fr [] h a' w' ∧ ∃ l, (resB cx res).f fr h (fun ys => rcL ys none fun y t => rcL t (cndR (Nat.beq y.n 33) (some h.fa) none) fun _ _ => none) = some l) a w
theorem TE_then {cx : Cx} {res : List SRes} {x y : Code} {S S' : Tst} (hx : T P cx nt x S (At1 0 S')) (hy : TE P cx nt res y S') : TE P cx nt res (.seq x y) S := fun w0 a w hA =>
  wp_seq (Code.wp_mono (fun e a w ⟨S1, h1, h2⟩ => by
    have he := ER0 h1.1
    subst he
    exact hy w0 a w (h1.2 ▸ h2)) (hx w0 a w hA))
theorem sgE {cl : Nat → FC} (hcl : CallsOk P cl) (hmix : P.follows .mixedOrders = true) (hG : F.G.length ≤ 64) {c : Code} {sc : SCode} (hp : Pt P F nt c sc) {S : Tst} {q : List X} {res : List SRes}
    (hr : holdsR (segE (cxF cl F) res sc S q)) : TE P (cxF cl F) nt res c S := by
  obtain ⟨l, e, hl⟩ := holdsR_some hr
  unfold segE at e
  rw [frmK_eq, bldK_eq] at e
  obtain ⟨e1, fr', h', g1, g2, g3⟩ := fwd_end hG (exC_ok hcl (draw_ok hcl) hmix hG c sc hp.st hp.ok (Wf.zero (cxF cl F)) (Nat.zero_le _) e)
  obtain ⟨h1, h2⟩ := cndR_t (show cndR (Nat.ble e1 1) _ none = some l from g1)
  have h1 : e1 ≤ 1 := bleT h1
  have hfa : ∀ p ∈ h'.fa, p := by
    obtain ⟨ys, h3, _⟩ : ∃ ys, (rcL ys none fun y t => rcL t (cndR (Nat.beq y.n 33) (some h'.fa) none) fun _ _ => none : R) = some l ∧ True := by
      have : ∀ (rs : List SRes) (kk : List X → R), (resB (cxF cl F) rs).f fr' h' kk = some l → ∃ ys, kk ys = some l := by
        intro rs
        induction rs with
        | nil => intro kk h; exact ⟨[], h⟩
        | cons r rs ih =>
          intro kk h
          cases r with
          | tmp t =>
            have h' : (@Option.rec Nat (fun _ => ResB) ⟨fun _ _ _ => none⟩ (fun j => ⟨fun fr h k => opn ((tr3.get j).g fr) fun a m o => (resB (cxF cl F) rs).f fr h fun xs => k (⟨a, m, o⟩ :: xs)⟩) (cnd (mem (cxF cl F).PV t) none (ix (cxF cl F).G t)) : ResB).f fr' h' kk = some l := h
            cases hj : cnd (mem (cxF cl F).PV t) none (ix (cxF cl F).G t) with
            | none => rw [hj] at h'; cases h'
            | some j =>
              rw [hj] at h'
              have h2 : opn (slotX fr' j) (fun a m o => (resB (cxF cl F) rs).f fr' _ fun xs => kk (⟨a, m, o⟩ :: xs)) = some l := h'
              rw [opn_eq] at h2
              obtain ⟨ys, h3⟩ := ih _ h2
              exact ⟨_, h3⟩
          | cell t ag sz =>
            have h' : (@Option.rec Nat (fun _ => ResB) ⟨fun _ _ _ => none⟩ (fun j => cnd (mem (cxF cl F).PV t) ⟨fun fr h k => frc ((tr3.get j).g fr).n fun m => cndR (Nat.beq m 14) none (xLoadC ag 0 sz ((tr3.get j).g fr) h fun x _ => (resB (cxF cl F) rs).f fr h fun xs => k (x :: xs))⟩ ⟨fun _ _ _ => none⟩) (ix (cxF cl F).G t) : ResB).f fr' h' kk = some l := h
            cases hj : ix (cxF cl F).G t with
            | none => rw [hj] at h'; cases h'
            | some j =>
              rw [hj] at h'
              cases hpv : mem (cxF cl F).PV t with
              | false =>
                have h2 : (cnd (mem (cxF cl F).PV t) (⟨fun fr h k => frc ((tr3.get j).g fr).n fun m => cndR (Nat.beq m 14) none (xLoadC ag 0 sz ((tr3.get j).g fr) h fun x _ => (resB (cxF cl F) rs).f fr h fun xs => k (x :: xs))⟩ : ResB) ⟨fun _ _ _ => none⟩).f fr' _ kk = some l := h'
                rw [hpv] at h2; cases h2
              | true =>
                have h2 : (cnd (mem (cxF cl F).PV t) (⟨fun fr h k => frc ((tr3.get j).g fr).n fun m => cndR (Nat.beq m 14) none (xLoadC ag 0 sz ((tr3.get j).g fr) h fun x _ => (resB (cxF cl F) rs).f fr h fun xs => k (x :: xs))⟩ : ResB) ⟨fun _ _ _ => none⟩).f fr' _ kk = some l := h'
                rw [hpv] at h2
                have h3 : cndR (Nat.beq (slotX fr' j).n 14) none (xLoadC ag 0 sz (slotX fr' j) _ fun x _ => (resB (cxF cl F) rs).f fr' _ fun xs => kk (x :: xs)) = some l := h2
                rcases cndR_some h3 with ⟨_, h4⟩ | ⟨_, h4⟩
                · cases h4
                · obtain ⟨y, h5, _⟩ := xLoadC_some h4
                  obtain ⟨ys, h6⟩ := ih _ h5
                  exact ⟨_, h6⟩
      obtain ⟨ys, h3⟩ := this _ _ h2
      exact ⟨ys, h3, trivial⟩
    match ys, h3 with
    | [y], h3 =>
      have := (cndR_t (show cndR (Nat.beq y.n 33) (some h'.fa) none = some l from h3)).2
      have := Option.some.inj this
      rw [this]; exact hl
  intro w0 a w hA
  refine Code.wp_mono (fun e' a' w' hh => ⟨?_, fr', h', hh.2, l, h2⟩) (g3 hfa (B0 w0 nt) a w rfl hle0 rfl (hA.hp rfl rfl))
  have hR : (if e1 = 0 then e' = .normal else ExR e1 e') := hh.1
  by_cases h0 : e1 = 0
  · rw [if_pos h0] at hR; exact .inl hR
  · rw [if_neg h0] at hR
    rcases hR with ⟨_, h⟩ | ⟨id, h5, _⟩
    · exact .inr h
    · omega
end
section
variable {P : Program}
theorem law_TE {cl : Nat → FC} {g : FuncId} {F : Fun} (hcl : CallsOk P cl) (hF : FnM P g F) (hok : okF F = true) {xs : List X} (hlen : xs.length = F.na) 
    (hT : ∀ c nt, Pt P F nt c F.sc → P.follows .mixedOrders = true → F.G.length ≤ 64 → TE P (cxF cl F) nt F.res c ⟨xs, 0, []⟩) {vals : Array Value} (hv : denL Vz xs vals.toList) (w : World) (hΦ : Ctxt.Φ w) :
    Calls P g vals w fun e w' => e = .returned (.bool true) ∧ Go.RowKit.Below w.heap.size w w' := by
  simp only [okF, Bool.and_eq_true, List.all_eq_true] at hok
  obtain ⟨ho1, ho2, ho3, ho4, ho5⟩ := hok
  generalize hcx : cxF cl F = cx at hT
  have hc2 : cx.G = F.G := by subst hcx; rfl
  have hc3 : cx.PV = F.PV := by subst hcx; rfl
  have hG64 : F.G.length ≤ 64 := bleT ho3
  have hna : F.na ≤ 8 := bleT ho4
  obtain ⟨⟨fn, c, q1, q2, q3, q4, q5, q6, q7, q8⟩, hmix⟩ := hF
  have hT := hT c fn.ntmps ⟨q4, q8⟩ hmix hG64
  have hvl : vals.size = F.na := by have := denL_length hv; simp at this; omega
  have hslot : ∀ j, j < 64 → slotX (frT ⟨xs, 0, []⟩) j = if j < F.na then xs.getD j xBad else xU := fun j hj => by
    show slotX (frmT xs 0 fr0) j = _
    rw [frmT_get xs 0 fr0 j (by omega) hj, if_neg (by omega), Nat.sub_zero, slot_fr0, List.getD_eq_getElem?_getD]
    by_cases h : j < F.na
    · rw [if_pos h, List.getElem?_eq_getElem (by omega)]; rfl
    · rw [if_neg h, List.getElem?_eq_none (by omega)]
  have hm : MR w Vz (hpT ⟨xs, 0, []⟩ []) w := ⟨fun b hb => hb.elim, fun b hb => hb.elim, fun b b' hb => hb.elim, fun b hb => hb.elim, fun _ _ => rfl, Nat.le_refl _, rfl, rfl, rfl, hΦ⟩
  have hA : TopAt cx fn.ntmps w ⟨xs, 0, []⟩ { tmps := vals ++ Array.replicate (fn.ntmps - vals.size) undef, defers := [] } w := by
    have hstC : ∀ p, staC cx en0 (frT ⟨xs, 0, []⟩) [] p = none := fun p => by
      show (if mem cx.PV p = true then match ix cx.G p with
        | some j => if (slotX (frT ⟨xs, 0, []⟩) j).n = 14 then none else some (slotX (frT ⟨xs, 0, []⟩) j)
        | none => none
        else none) = none
      split
      · rename_i hpv
        cases hj : ix cx.G p with
        | none => rfl
        | some j =>
          have hgj := ix_get hj
          have hj64 : j < 64 := Nat.lt_of_lt_of_le (List.getElem?_eq_some_iff.1 hgj).1 (hc2 ▸ hG64)
          have hpna : F.na ≤ p := bleT (ho5 p ((mem_iff F.PV p).1 (by rw [← hc3]; exact hpv)))
          have hjn : ¬ j < F.na := fun hlt => by
            have := okG_get ho1 j hlt
            rw [hc2, this] at hgj
            simp only [Option.some.injEq] at hgj
            omega
          simp only [hslot j hj64, if_neg hjn, if_true]
      · rfl
    refine ⟨Vz, fun _ => 0, hm, .refl .., fun k' sv hk => ?_, fun p y hp => ?_, fun p q y z hp => ?_, rfl, ?_, Nat.le_refl _⟩
    · have hk' : (if mem cx.PV k' = true then (match staC cx en0 (frT ⟨xs, 0, []⟩) [] k' with
        | some _ => some (SV.ptr k' 0 true)
        | none => none) else match ix cx.G k' with
          | some j => some (SV.val (slotX (frT ⟨xs, 0, []⟩) j))
          | none => none) = some sv := hk
      rw [hstC] at hk'
      split at hk'
      · cases hk'
      · cases hj : ix cx.G k' with
        | none => rw [hj] at hk'; cases hk'
        | some j =>
          rw [hj] at hk'
          simp only [Option.some.injEq] at hk'
          subst hk'
          have hgj := ix_get hj
          have hj64 : j < 64 := Nat.lt_of_lt_of_le (List.getElem?_eq_some_iff.1 hgj).1 (hc2 ▸ hG64)
          show den Vz (slotX (frT ⟨xs, 0, []⟩) j) ((vals ++ Array.replicate (fn.ntmps - vals.size) undef).getD k' undef)
          rw [hslot j hj64]
          by_cases hlt : j < F.na
          · rw [if_pos hlt]
            have := okG_get ho1 j hlt
            rw [hc2, this] at hgj
            simp only [Option.some.injEq, Nat.zero_add] at hgj
            subst hgj
            obtain ⟨v, h1, h2⟩ := denL_get hv (i := j) (x := xs.getD j xBad) (by rw [List.getD_eq_getElem?_getD, List.getElem?_eq_getElem (by omega)]; rfl)
            have hvj : vals[j]? = some v := by simpa using h1
            rw [Array.getD_eq_getD_getElem?, Array.getElem?_append, if_pos (by omega), hvj]
            exact h2
          · rw [if_neg hlt]
            have hkn : ¬ k' < F.na := fun hk => by
              have h1 := okG_get ho1 k' hk
              rw [Nat.zero_add] at h1
              have h2 := nodup_ix ho2 h1
              rw [← hc2, hj] at h2
              simp only [Option.some.injEq] at h2
              omega
            have : (vals ++ Array.replicate (fn.ntmps - vals.size) undef).getD k' undef = undef := by
              rw [Array.getD_eq_getD_getElem?, Array.getElem?_append, if_neg (by omega)]
              rcases Nat.lt_or_ge (k' - vals.size) (fn.ntmps - vals.size) with hh | hh
              · simp [hh]
              · rw [Array.getElem?_eq_none (by simpa using hh)]; rfl
            rw [this]
            exact den_xU
    · have hp' : staC cx en0 (frT ⟨xs, 0, []⟩) [] p = some y := hp
      rw [hstC] at hp'; cases hp'
    · have hp' : staC cx en0 (frT ⟨xs, 0, []⟩) [] p = some y := hp
      rw [hstC] at hp'; cases hp'
    · show (vals ++ Array.replicate (fn.ntmps - vals.size) undef).size = fn.ntmps
      simp only [Array.size_append, Array.size_replicate]
      omega
  refine calls_of_wp q1 q3 (Code.wp_mono (fun ex a' w' hh => ?_) (hT w _ w hA))
  obtain ⟨h2, fr, h, ⟨V', γ', hS⟩, l, e⟩ := hh
  obtain ⟨ys, e2, hys⟩ := resB_some fn.results.toList q5 e
  obtain ⟨y, rfl, hy⟩ : ∃ y, ys = [y] ∧ y.n = 33 := by
    match ys, e2 with
    | [y], e2 => exact ⟨y, rfl, beqT (cndR_t (show cndR (Nat.beq y.n 33) (some h.fa) none = some l from e2)).1⟩
  obtain ⟨vs, z1, z2, z3⟩ := hys (B0 w fn.ntmps) V' γ' a' w' hS
  obtain ⟨v, r', rfl, z4, z5⟩ := denL_cons.1 z2
  have := denL_nil.1 z5
  subst this
  have hb := den_boolT hy z4
  have hfin : a'.defers = [] ∧ ∃ v', (results fn a'.tmps).run P w' = .ok v' w' ∧ Ending.returned v' = .returned (.bool true) ∧ Go.RowKit.Below w.heap.size w w' :=
    ⟨hS.df, v, by have := results_eq a'.tmps w' rfl z1 q6 z3; simpa using this, by rw [hb], ⟨hS.mr.os, hS.mr.tape, hS.mr.output, hS.mr.sz, fun k hk => hS.mr.old k hk⟩⟩
  rcases h2 with rfl | rfl <;> exact hfin
end
end
end Go.M
namespace Go.M
open Go
noncomputable section
def HasL (a : Option Addr) (len cap : Nat) (zs : List Int) (w : World) : Prop :=
  (a = none ∧ len = 0 ∧ cap = 0 ∧ zs = []) ∨ ∃ x, a = some x ∧ len ≤ cap ∧ zs.length = cap ∧ ∀ i, i < zs.length → w.cell? (x.add i) = some (.int .i64 (zs.getD i 0))
def Old (w0 w : World) : Prop := ∀ g, g < w0.heap.size → w.heap[g]? = w0.heap[g]?
theorem cell_old {w0 w : World} {a : Addr} {v : Value} (ho : Old w0 w) (h : w0.cell? a = some v) : w.cell? a = some v := by
  unfold World.cell? at h ⊢
  cases hg : w0.heap[a.block]? with
  | none => rw [hg] at h; cases h
  | some o =>
    have hlt := (Array.getElem?_eq_some_iff.1 hg).1
    rw [ho _ hlt]; exact h
theorem HasL.keep {a : Option Addr} {len cap : Nat} {zs : List Int} {w0 w : World} (h : HasL a len cap zs w0) (ho : Old w0 w) : HasL a len cap zs w := by
  rcases h with h | ⟨x, h1, h2, h3, h4⟩
  · exact .inl h
  · exact .inr ⟨x, h1, h2, h3, fun i hi => cell_old ho (h4 i hi)⟩
def drw (zs : List Int) (n0 i n : Nat) : Int := if i < n0 then (zs.getD i 0) % (n : Int) else 0
def nxt (n0 i : Nat) : Nat := if i < n0 then i + 1 else i
theorem drw_lt (zs : List Int) (n0 i : Nat) {n : Nat} (h : 0 < n) : 0 ≤ drw zs n0 i n ∧ drw zs n0 i n < n := by
  unfold drw
  split
  · exact ⟨Int.emod_nonneg _ (by omega), Int.emod_lt_of_pos _ (by omega)⟩
  · omega
def DrawF (L : Value) (n0 : Nat) (zs : List Int) (lx ax nx v c : X) : Prop := lx = ⟨13, [], L⟩ ∧ ∃ i : Nat, dvX ax = some (.int .i64 i) ∧ i ≤ n0 ∧ dvX v = some (.int .i64 (drw zs n0 i (nx.n / 32))) ∧ dvX c = some (.int .i64 (nxt n0 i : Nat))
def fld1 (p : X) : X := ⟨Nat.add p.n 32, [], oZ⟩
def fcDraw (L : Value) (n0 : Nat) (zs : List Int) : FC := ⟨fun xs h k => rcL xs none fun p t => rcL t none fun nx t2 => rcL t2 (cndR (Nat.beq (Nat.land nx.n 31) 0) (cndR (Nat.ble 32 nx.n) (cndR (Nat.ble nx.n 32000000) (cndR (Nat.beq (Nat.land (Nat.shiftRight p.n 5) 1048575) 0)
  (xLoad false 1 p h fun lx h => xLoad false 1 (fld1 p) h fun ax h => orcK (fun _ => True) h fun v h => orcK (fun c => DrawF L n0 zs lx ax nx v c) h fun c h => xStore 1 (fld1 p) c h fun _ h => k v h) none) none) none) none) fun _ _ => none⟩
def fcNew (L0 L : Value) : FC := ⟨fun xs h k => rcL xs none fun x t => rcL t (orcK (fun _ => x = ⟨13, [], L0⟩) h fun _ h => allocP ⟨65, [⟨66, [⟨13, [], L⟩, mk0 0], oZ⟩], oZ⟩ h k) fun _ _ => none⟩
variable [Ctxt]
theorem setCell_same {w : World} {a : Addr} {v : Value} (h : w.cell? a = some v) : w.setCell a v = w := by
  unfold World.cell? at h
  cases hg : w.heap[a.block]? with
  | none => rw [hg] at h; cases h
  | some o =>
    rw [hg] at h
    cases o with
    | cells c t f =>
      simp only at h
      split at h
      · cases h
      · rename_i hsp
        have hh : w.heap.modify a.block (fun o => match o with
          | .cells c elem frozen => .cells (if a.spot.isSome then c else c.setIfInBounds a.off v) elem frozen
          | o => o) = w.heap := by
          apply Array.ext_getElem?
          intro i
          rw [Array.getElem?_modify]
          by_cases e : a.block = i
          · subst e
            rw [if_pos rfl, hg]
            simp only [Option.map_some, hsp, Bool.false_eq_true, if_false]
            congr 2
            apply Array.ext_getElem?
            intro j
            rw [Array.getElem?_setIfInBounds]
            by_cases e2 : a.off = j
            · subst e2
              have hlt := (Array.getElem?_eq_some_iff.1 h).1
              rw [if_pos rfl, if_pos hlt, h]
            · rw [if_neg e2]
          · rw [if_neg e]
        show { w with heap := _ } = w
        exact congrArg (fun x => { w with heap := x }) hh
    | _ => cases h
theorem MR.same {w0 : World} {V : Vw} {h : Hp} {w w' : World} (hm : MR w0 V h w) (hh : w'.heap = w.heap) (ho : w'.os = w.os) (ht : w'.tape = w.tape) (hu : w'.output = w.output) : MR w0 V h w' :=
  ⟨hm.nb, fun b hb => (hm.bl b hb).world (by rw [hh]), hm.inj, fun b hb => by rw [hh]; exact hm.nw b hb, fun g hg => by rw [hh]; exact hm.old g hg, by rw [hh]; exact hm.sz, ho.trans hm.os, ht.trans hm.tape, hu.trans hm.output, hm.ar⟩
theorem den_fld1 {V : Vw} {p : X} {u : Value} (h : den V p u) (ht : p.n % 32 = 7) (h0 : p.n / 32 % 1048576 = 0) : ∃ a : Addr, u = .pointer (some a) ∧ den V (fld1 p) (.pointer (some (a.add 1))) ∧ ∃ b, V.S b ∧ a.block = V.ρ b := by
  obtain ⟨hb, rfl⟩ := (den7 ht).1 h
  refine ⟨_, rfl, (den7 (x := fld1 p) (by show (p.n + 32) % 32 = 7; omega)).2 ?_, _, hb, rfl⟩
  have e1 : (fld1 p).n / 32 / 1048576 = p.n / 32 / 1048576 := by show (p.n + 32) / 32 / 1048576 = _; omega
  have e2 : (fld1 p).n / 32 % 1048576 = 1 := by show (p.n + 32) / 32 % 1048576 = _; omega
  rw [e1, e2, h0]
  exact ⟨hb, rfl⟩
section
variable {P : Program} {f : Nat}
theorem fcDraw_ok {L : Value} {n0 : Nat} {zs : List Int} (hE : Enters P f)
    (hc : ∀ (p : Addr) (i n : Nat) (w w0 : World), Ctxt.Φ w0 → Old w0 w → w0.heap.size ≤ p.block → w.cell? p = some L → w.cell? (p.add 1) = some (.int .i64 i) → w.frozen? (p.add 1) = false → i ≤ n0 → 0 < n → n ≤ 1000000 → Calls P f #[.pointer (some p), .int .i64 n] w fun e w' =>
      e = .returned (.int .i64 (drw zs n0 i n)) ∧ w'.heap = (w.setCell (p.add 1) (.int .i64 ((nxt n0 i : Nat) : Int))).heap ∧ w'.os = w.os ∧ w'.tape = w.tape ∧ w'.output = w.output) :
    FcOk P f (fcDraw L n0 zs) := fun xs h k r _ e => by
  match xs, e with
  | [p, nx], e =>
    obtain ⟨t1, e1⟩ := cndR_t (show cndR (Nat.beq (Nat.land nx.n 31) 0) (cndR (Nat.ble 32 nx.n) (cndR (Nat.ble nx.n 32000000) (cndR (Nat.beq (Nat.land (Nat.shiftRight p.n 5) 1048575) 0)
      (xLoad false 1 p h fun lx h => xLoad false 1 (fld1 p) h fun ax h => orcK (fun _ => True) h fun v h => orcK (fun c => DrawF L n0 zs lx ax nx v c) h fun c h => xStore 1 (fld1 p) c h fun _ h => k v h) none) none) none) none = some r from e)
    obtain ⟨t2, e2⟩ := cndR_t e1
    obtain ⟨t4, e2⟩ := cndR_t e2
    have t4 : nx.n ≤ 32000000 := bleT t4
    obtain ⟨t3, e3⟩ := cndR_t e2
    have t1 : nx.n % 32 = 0 := by rw [← land31]; exact beqT t1
    have t2 : 32 ≤ nx.n := bleT t2
    have t3 : p.n / 32 % 1048576 = 0 := by
      have := beqT t3
      have h1 : Nat.land (Nat.shiftRight p.n 5) 1048575 = Nat.shiftRight p.n 5 % 1048576 := Nat.and_two_pow_sub_one_eq_mod _ 20
      rw [h1, shr] at this; exact this
    have tp : p.n % 32 = 7 := (ptrO_some (show (ptrO p _) = some r from e3)).1
    obtain ⟨lx, e4, g1⟩ := get1_some e3
    obtain ⟨ax, e5, g2⟩ := get1_some e4
    obtain ⟨v, q2, e7⟩ := orcK_spec e5
    obtain ⟨c, q3, e8⟩ := orcK_spec e7
    have hle : HLe h.fl h (hOrc (hOrc h q2 True) q3 (DrawF L n0 zs lx ax nx v c)) := HLe.orc.trans HLe.orc
    generalize hh : hOrc (hOrc h q2 True) q3 (DrawF L n0 zs lx ax nx v c) = h3 at e8 hle
    have hmr : ∀ {w0 V w}, MR w0 V h w → MR w0 V h3 w := fun hm => by rw [← hh]; exact hm.orc.orc
    have hfl : h3.fl = h.fl := hle.fe
    obtain ⟨h', e10, l1, l2⟩ := cell1_some e8
    refine ⟨v, h', e10, hle.trans (by rw [← hfl]; exact l1), fun hf w0 V w vals hm hv => ⟨hE, ?_⟩⟩
    have hD : DrawF L n0 zs lx ax nx v c := hf _ (l1.fa _ (by rw [← hh]; exact List.mem_cons_self ..))
    obtain ⟨u, r1, hv1, d1, hv2⟩ := denL_cons.1 hv
    obtain ⟨u2, r2, rfl, d2, hv3⟩ := denL_cons.1 hv2
    have := denL_nil.1 hv3
    subst this
    have hvals : vals = #[u, u2] := Array.toList_inj.1 (by simpa using hv1)
    have h2 := (den0 t1).1 d2
    obtain ⟨a, hu, dp, bb, hbb, hbk⟩ := den_fld1 d1 tp t3
    obtain ⟨a', v1, hu', c1, _, dl⟩ := g1 w0 V w u hm d1
    rw [hu] at hu'; cases hu'
    obtain ⟨a2, v2, hu2, c2, c3, da⟩ := g2 w0 V w _ hm dp
    cases hu2
    obtain ⟨hlx, i, f1, f2, f4, f5⟩ := hD
    rw [hlx] at dl
    have hv1' := ((den12 (x := ⟨13, [], L⟩) (.inr rfl)).1 dl).1
    have hv2' := dvX_den f1 da
    have hv1' : v1 = L := hv1'
    subst hv1' hv2'
    rw [hvals, hu, h2]
    obtain ⟨a', c', ha, _, _, m1, m2⟩ := l2 w0 V w _ (.int .i64 ((nxt n0 i : Nat) : Int)) (hmr hm) dp (den_dvX f5 rfl) rfl rfl
    cases ha
    refine (hc a i (nx.n / 32) w w0 hm.ar hm.old (by rw [hbk]; exact (hm.nw bb hbb).1) c1 c2 c3 f2 (by omega) (by omega)).mono fun e w' ⟨he, hw, ho, htp, hou⟩ => ?_
    have hs : ∀ (w : World) (a : Addr) (v : Value), (w.setCell a v).os = w.os ∧ (w.setCell a v).tape = w.tape ∧ (w.setCell a v).output = w.output := fun w a v => ⟨rfl, rfl, rfl⟩
    obtain ⟨s1, s2, s3⟩ := hs w (a.add 1) (.int .i64 ((nxt n0 i : Nat) : Int))
    refine ⟨_, V, he, m1.same hw (ho.trans s1.symm) (htp.trans s2.symm) (hou.trans s3.symm), den_dvX f4 rfl, ⟨m2.ext, fun b hb => (m2.new b hb).imp id fun hh => ⟨Nat.le_trans hle.n hh.1, hh.2.imp id fun ⟨b0, x1, x2, x3⟩ => ⟨b0, x1, hfl ▸ x2, x3⟩⟩, fun g hg hk => ?_, by rw [hw]; exact m2.size⟩⟩
    rw [hw]; exact m2.keep g hg fun b hb hf => hk b hb (hfl ▸ hf)
theorem fcNew_ok {L0 L : Value} (hE : Enters P f) (h1 : one L) (hc : ∀ w : World, Calls P f #[L0] w fun e w' => e = .returned (.pointer (some ⟨w.heap.size, 0, none⟩)) ∧ ∃ ety, w' = w.alloc (.cells #[L, .int .i64 0] ety)) : FcOk P f (fcNew L0 L) := fun xs h k r _ e => by
  match xs, e with
  | [x], e =>
    obtain ⟨b, q, e1⟩ := orcK_spec (show orcK (fun _ => x = ⟨13, [], L0⟩) h (fun _ h => allocP ⟨65, [⟨66, [⟨13, [], L⟩, mk0 0], oZ⟩], oZ⟩ h k) = some r from e)
    obtain ⟨hn, y, e2, hy⟩ := allocP_some e1
    refine ⟨y, _, e2, HLe.orc.trans (.al _ _ _ hn), fun hf w0 V w vals hm hv => ⟨hE, ?_⟩⟩
    have hx : x = ⟨13, [], L0⟩ := hf _ (List.mem_cons_self ..)
    obtain ⟨u, r1, hv1, d1, hv2⟩ := denL_cons.1 hv
    have := denL_nil.1 hv2
    subst this
    have hvals : vals = #[u] := Array.toList_inj.1 (by simpa using hv1)
    subst hvals
    rw [hx] at d1
    have hu := ((den12 (x := ⟨13, [], L0⟩) (.inr rfl)).1 d1).1
    have hu : u = L0 := hu
    subst hu
    refine (hc w).mono fun e w' ⟨he, ety, hw⟩ => ?_
    subst hw
    have hl : denL V [⟨13, [], L⟩, mk0 0] [L, .int .i64 0] := denL_cons.2 ⟨L, _, rfl, (den12 (x := ⟨13, [], L⟩) (.inr rfl)).2 ⟨rfl, h1⟩, denL_cons.2 ⟨_, [], rfl, (den0 (x := mk0 0) rfl).2 rfl, denL_nil.2 rfl⟩⟩
    obtain ⟨v', w2, V', g1, g2, g3, g4⟩ := new_var (h := hOrc h q (x = ⟨13, [], u⟩)) (x := y) (n := 65) (rn := 66) (ro := oZ) (bo := oZ) (P := P) (ety := ety) (w := w) hm.orc hn hl (fun v hv => by
      rcases List.mem_cons.1 hv with rfl | hv
      · exact h1
      · rcases List.mem_cons.1 hv with rfl | hv
        · rfl
        · cases hv) (by simp) (by simp) (by simp) hy #[L, .int .i64 0] rfl h.fl
    rcases g1 with g1 | ⟨_, g1⟩
    · cases g1
      subst hx
      exact ⟨_, V', he, g2, g3, ⟨g4.ext, g4.new, g4.keep, g4.size⟩⟩
    · cases g1
end
end
end Go.M
namespace Go.M
open Go
noncomputable section
class Lst where
  a : Option Addr
  len : Nat
  cap : Nat
  zs : List Int
  h : len ≤ cap
instance lstC [l : Lst] : Ctxt := ⟨HasL l.a l.len l.cap l.zs⟩
def n0L [l : Lst] : Nat := if l.len ≤ 4000 then l.len else 4000
def zsL [l : Lst] : List Int := l.zs
def lst0 [l : Lst] : Value := .slice l.a l.len l.cap
def lst1 [l : Lst] : Value := .slice l.a n0L l.cap
section
variable [l : Lst]
theorem n0L_le : n0L ≤ 4000 := by unfold n0L; split <;> omega
theorem n0L_len : n0L ≤ l.len := by unfold n0L; split <;> omega
theorem n0L_cap : n0L ≤ l.cap := Nat.le_trans n0L_len l.h
theorem lst1_one : one lst1 := rfl
theorem lst1_le (h : l.len ≤ 4000) : lst1 = .slice l.a l.len l.cap := by unfold lst1 n0L; rw [if_pos h]
theorem lst1_gt (h : 4000 < l.len) : lst1 = .slice l.a 4000 l.cap := by unfold lst1 n0L; rw [if_neg (by omega)]
theorem lst1_some {x : Addr} (h : l.a = some x) : lst1 = .slice (some x) n0L l.cap := by unfold lst1; rw [h]
theorem drw_lt' {i n : Nat} (h : i < n0L) : drw zsL n0L i n = zsL.getD i 0 % (n : Int) := if_pos h
theorem drw_ge' {i n : Nat} (h : ¬ i < n0L) : drw zsL n0L i n = 0 := if_neg h
theorem nxt_lt' {i : Nat} (h : i < n0L) : ((nxt n0L i : Nat) : Int) = (i : Int) + 1 := by unfold nxt; rw [if_pos h]; rfl
theorem nxt_ge' {i : Nat} (h : ¬ i < n0L) : ((nxt n0L i : Nat) : Int) = (i : Int) := by unfold nxt; rw [if_neg h]
theorem cell_lt {w : World} {a : Addr} {v : Value} (h : w.cell? a = some v) : a.block < w.heap.size := by
  unfold World.cell? at h
  cases hg : w.heap[a.block]? with
  | none => rw [hg] at h; cases h
  | some o => exact (Array.getElem?_eq_some_iff.1 hg).1
theorem cell_spot {w : World} {b o : Nat} {s v} (h : w.cell? ⟨b, o, s⟩ = some v) : s = none := by
  unfold World.cell? at h
  split at h
  · split at h
    · cases h
    · rename_i hs
      cases s with
      | none => rfl
      | some x => exact absurd rfl hs
  · cases h
theorem HasL.some {w0 : World} (h : Ctxt.Φ w0) {i : Nat} (hi : i < n0L) : ∃ b o, l.a = some ⟨b, o, none⟩ ∧ w0.cell? ⟨b, o + i, none⟩ = some (.int .i64 (zsL.getD i 0)) ∧ b < w0.heap.size := by
  have h : HasL l.a l.len l.cap l.zs w0 := h
  have h0 := n0L_len (l := l)
  rcases h with ⟨_, h2, _⟩ | ⟨⟨b, o, s⟩, h1, h2, h3, h4⟩
  · omega
  · have c0 := h4 0 (by omega)
    have c0 : w0.cell? ⟨b, o, s⟩ = Option.some (.int .i64 (zsL.getD 0 0)) := c0
    obtain rfl : s = none := cell_spot c0
    have c1 := h4 i (by omega)
    have e : (⟨b, o, none⟩ : Addr).add i = ⟨b, o + i, none⟩ := by
      unfold Addr.add
      split
      · rename_i hi; subst hi; rfl
      · rfl
    rw [e] at c1
    exact ⟨b, o, h1, c1, cell_lt c1⟩
end
end
end Go.M
namespace Go.M
open Go
noncomputable section
def AskF (x y : X) : Prop := ∃ o, x = ⟨12, [], o⟩ ∧ y = ⟨13, [], o⟩
def fcG (fc : FC) : FC := ⟨fun xs h k => fc.f xs h fun x h => orcK (AskF x) h k⟩
theorem nxt_le {n0 i : Nat} (h : i ≤ n0) : nxt n0 i ≤ n0 := by unfold nxt; split <;> omega
theorem drw_case (zs : List Int) (n0 i n : Nat) (hn : 0 < n) : ∃ m : Nat, drw zs n0 i n = (m : Int) ∧ m < n := by
  obtain ⟨h1, h2⟩ := drw_lt zs n0 i hn
  obtain ⟨m, h⟩ := Int.eq_ofNat_of_zero_le h1
  exact ⟨m, h, by omega⟩
theorem dvX_i [Ctxt] (n : Nat) : dvX ⟨32 * n, [], oZ⟩ = some (.int .i64 (n : Int)) := by
  have := dN (m := n) (N := 32 * n) rfl
  exact this
theorem drawF_ok [Ctxt] {L : Value} {n0 : Nat} {zs : List Int} {i n m nn vn : Nat} {ax : X} (ha : dvX ax = some (.int .i64 (i : Int))) (hi : i ≤ n0) (h : drw zs n0 i n = (m : Int)) (hn : nn = 32 * n) (hv : vn = 32 * m) : DrawF L n0 zs ⟨13, [], L⟩ ax ⟨nn, [], oZ⟩ ⟨vn, [], oZ⟩ ⟨13, [], .int .i64 ((nxt n0 i : Nat) : Int)⟩ := by
  subst hn hv
  refine ⟨rfl, i, ha, hi, ?_, dS⟩
  rw [show (⟨32 * n, [], oZ⟩ : X).n / 32 = n from by show 32 * n / 32 = n; omega, h]
  exact dvX_i m
theorem drawS_ok [Ctxt] {L : Value} {n0 : Nat} {zs : List Int} {i n nn : Nat} {ax : X} (ha : dvX ax = some (.int .i64 (i : Int))) (hi : i ≤ n0) (hn : nn = 32 * n) : DrawF L n0 zs ⟨13, [], L⟩ ax ⟨nn, [], oZ⟩ ⟨13, [], .int .i64 (drw zs n0 i n)⟩ ⟨13, [], .int .i64 ((nxt n0 i : Nat) : Int)⟩ := by
  subst hn
  refine ⟨rfl, i, ha, hi, ?_, dS⟩
  rw [show (⟨32 * n, [], oZ⟩ : X).n / 32 = n from by show 32 * n / 32 = n; omega]
  exact dS
variable [Ctxt]
theorem fcG_ok {P : Program} {g : Nat} {fc : FC} (hf : FcOk P g fc) : FcOk P g (fcG fc) := fun xs h k r hl e => by
  obtain ⟨x, h', e1, l1, h1⟩ := hf xs h (fun x h => orcK (AskF x) h k) r hl e
  obtain ⟨y, q, e2⟩ := orcK_spec e1
  refine ⟨y, _, e2, l1.trans .orc, fun ha w0 V w vals hm hv => ?_⟩
  obtain ⟨o, rfl, rfl⟩ : AskF x y := ha _ (List.mem_cons_self ..)
  obtain ⟨hE, hc⟩ := h1 (fun p hp => ha p (List.mem_cons_of_mem _ hp)) w0 V w vals hm hv
  refine ⟨hE, hc.mono fun e w' ⟨v, V', g1, g2, g3, g4⟩ => ⟨v, V', g1, g2.orc, ?_, g4⟩⟩
  exact (den12 (x := ⟨13, [], o⟩) (.inr rfl)).2 ((den12 (x := ⟨12, [], o⟩) (.inl rfl)).1 g3)
end
end Go.M
namespace Go.M
open Go
noncomputable section
variable [Ctxt]
structure InsB where
  f : List X → List X → (List X → R) → R
def insB (i : Nat) : InsB := @Nat.rec (fun _ => InsB) ⟨fun rows news k => appL news rows k⟩ (fun _ ih => ⟨fun rows news k => rcL rows none fun x t => ih.f t news fun l => k (x :: l)⟩) i
theorem insB_some : ∀ {i : Nat} {rows news : List X} {k : List X → R} {r}, (insB i).f rows news k = some r → i ≤ rows.length ∧ k (rows.take i ++ (news ++ rows.drop i)) = some r
  | 0, rows, news, k, r, e => by
    have e : appL news rows k = some r := e
    rw [appL_eq] at e
    exact ⟨Nat.zero_le _, by simpa using e⟩
  | i + 1, rows, news, k, r, e => by
    cases rows with
    | nil => cases (show (none : R) = some r from e)
    | cons x t =>
      obtain ⟨h1, h2⟩ := insB_some (i := i) (show (insB i).f t news (fun l => k (x :: l)) = some r from e)
      exact ⟨by simp only [List.length_cons]; omega, by simpa using h2⟩
def fcIns (sz by_ : Nat) (fc0 : FC) : FC := ⟨fun xs h k => match xs with
  | [s, i, v] => cndR (Nat.beq (Nat.land s.n 31) 8) (slO s.n fun b off len c => cndR (Nat.beq (Nat.land i.n 31) 0) (frc (Nat.shiftRight i.n 5) fun iv => cndR (Nat.ble len iv) (fc0.f [s, i, v] h k)
      (cndR (Nat.beq c 0) (cndR (Nat.beq off 0) (cndR (Nat.beq (Nat.land v.n 31) 8) (slO v.n fun vb _ _ _ => cndR (Nat.beq vb b) none (rowsK vb h fun _ _ _ => contK sz s h fun olds => contK sz v h fun news => rcL news none fun n0 nt => (insB iv).f olds (n0 :: nt) fun rows =>
        rowsK b h fun _ e _ => cndR (Nat.beq e sz) (putK b (mk0 0) h fun h => newS sz by_ rows h k) none)) none) none) none)) none) (fc0.f [s, i, v] h k)
  | _ => none⟩
theorem RowsR.takeV {V : Vw} {e : Nat} {rows : List X} {vals : List Value} (h : RowsR V e rows vals.toArray) (i : Nat) : RowsR V e (rows.take i) (vals.take (i * e)).toArray := fun q row hq => by
  rw [List.getElem?_take] at hq
  split at hq
  · rename_i hqi
    obtain ⟨h1, h2, h3⟩ := h q row hq
    refine ⟨h1, h2, fun j c hj => ?_⟩
    obtain ⟨u, h4, h5⟩ := h3 j c hj
    refine ⟨u, ?_, h5⟩
    have hje : j < e := by rw [← h2]; exact (List.getElem?_eq_some_iff.1 hj).1
    have : (q + 1) * e ≤ i * e := Nat.mul_le_mul_right _ (by omega)
    rw [Nat.add_mul, Nat.one_mul] at this
    rw [List.getElem?_toArray] at h4 ⊢
    rw [List.getElem?_take, if_pos (by omega)]
    exact h4
  · cases hq
theorem RowsR.dropV {V : Vw} {e : Nat} {rows : List X} {vals : List Value} (h : RowsR V e rows vals.toArray) (i : Nat) : RowsR V e (rows.drop i) (vals.drop (i * e)).toArray := fun q row hq => by
  rw [List.getElem?_drop] at hq
  obtain ⟨h1, h2, h3⟩ := h (i + q) row hq
  refine ⟨h1, h2, fun j c hj => ?_⟩
  obtain ⟨u, h4, h5⟩ := h3 j c hj
  refine ⟨u, ?_, h5⟩
  rw [List.getElem?_toArray] at h4 ⊢
  rw [List.getElem?_drop, ← h4, Nat.add_mul, Nat.add_assoc]
theorem ins_get {a d q : Nat} {cs vs : List Value} (h1 : a ≤ q) (hcl : cs.length = q) (hvl : vs.length = d) {C : Array Value} (c1 : ∀ (j : Nat), j < a → C[j]? = cs[j]?) (c2 : ∀ (j : Nat), a ≤ j → j < a + d → C[j]? = vs[j - a]?) (c3 : ∀ (j : Nat), a + d ≤ j → j < q + d → C[j]? = cs[j - d]?) :
    ∀ (j : Nat) (v : Value), (cs.take a ++ (vs ++ cs.drop a))[j]? = some v → C[j]? = some v := fun j v hj => by
  have t1 : (cs.take a).length = a := by rw [List.length_take, hcl]; omega
  rw [List.getElem?_append, t1] at hj
  split at hj
  · rename_i hja
    rw [List.getElem?_take, if_pos hja] at hj
    rw [c1 j hja]; exact hj
  · rename_i hja
    rw [List.getElem?_append, hvl] at hj
    split at hj
    · rw [c2 j (by omega) (by omega)]; exact hj
    · rename_i hjd
      rw [List.getElem?_drop] at hj
      have hlt := (List.getElem?_eq_some_iff.1 hj).1
      rw [hcl] at hlt
      rw [c3 j (by omega) (by omega), ← hj]
      congr 1; omega
theorem ins_cells {cells : Array Value} {a d q u : Nat} {cs vs : List Value} (h1 : a ≤ q) (h2 : q + d ≤ u) (hs : cells.size = u) (hcl : cs.length = q) (hvl : vs.length = d) (hcs : ∀ (j : Nat) (v : Value), cs[j]? = some v → cells[j]? = some v) :
    (Go.Eng.pasted (Go.Eng.pasted cells (a + d) (cs.drop a).toArray) a vs.toArray).size = u ∧ ∀ (j : Nat) (v : Value), (cs.take a ++ (vs ++ cs.drop a))[j]? = some v → (Go.Eng.pasted (Go.Eng.pasted cells (a + d) (cs.drop a).toArray) a vs.toArray)[j]? = some v := by
  have g1 : (cs.drop a).toArray.size = q - a := by simp [hcl]
  have g2 : vs.toArray.size = d := by simpa using hvl
  have f1 : a + d + (cs.drop a).toArray.size ≤ cells.size := by rw [g1, hs]; omega
  have s1 := Go.Eng.pasted_size cells (a + d) (cs.drop a).toArray f1
  have f2 : a + vs.toArray.size ≤ (Go.Eng.pasted cells (a + d) (cs.drop a).toArray).size := by rw [g2, s1, hs]; omega
  refine ⟨by rw [Go.Eng.pasted_size _ _ _ f2, s1, hs], ins_get h1 hcl hvl (fun j hj => ?_) (fun j hj hj2 => ?_) (fun j hj hj2 => ?_)⟩
  · rw [Go.Eng.pasted_get _ _ _ f2, if_pos hj, Go.Eng.pasted_get _ _ _ f1, if_pos (by omega)]
    have hl : j < cs.length := by omega
    rw [List.getElem?_eq_getElem hl]
    exact hcs j _ (List.getElem?_eq_getElem hl)
  · rw [Go.Eng.pasted_get _ _ _ f2, if_neg (by omega), g2, if_pos hj2, List.getElem?_toArray]
  · rw [Go.Eng.pasted_get _ _ _ f2, if_neg (by omega), g2, if_neg (by omega), Go.Eng.pasted_get _ _ _ f1, if_neg (by omega), g1, if_pos (by omega), List.getElem?_toArray, List.getElem?_drop]
    congr 1; omega
theorem ins_cells2 {cells : Array Value} {a d q u : Nat} {cs vs : List Value} (h1 : a ≤ q) (h2 : q + d ≤ u) (hs : cells.size = u) (hcl : cs.length = q) (hvl : vs.length = d) (hcs : ∀ (j : Nat), j < a → cells[j]? = cs[j]?) :
    (Go.Eng.pasted (Go.Eng.pasted cells a vs.toArray) (a + d) (cs.drop a).toArray).size = u ∧ ∀ (j : Nat) (v : Value), (cs.take a ++ (vs ++ cs.drop a))[j]? = some v → (Go.Eng.pasted (Go.Eng.pasted cells a vs.toArray) (a + d) (cs.drop a).toArray)[j]? = some v := by
  have g1 : (cs.drop a).toArray.size = q - a := by simp [hcl]
  have g2 : vs.toArray.size = d := by simpa using hvl
  have f1 : a + vs.toArray.size ≤ cells.size := by rw [g2, hs]; omega
  have s1 := Go.Eng.pasted_size cells a vs.toArray f1
  have f2 : a + d + (cs.drop a).toArray.size ≤ (Go.Eng.pasted cells a vs.toArray).size := by rw [g1, s1, hs]; omega
  refine ⟨by rw [Go.Eng.pasted_size _ _ _ f2, s1, hs], ins_get h1 hcl hvl (fun j hj => ?_) (fun j hj hj2 => ?_) (fun j hj hj2 => ?_)⟩
  · rw [Go.Eng.pasted_get _ _ _ f2, if_pos (by omega), Go.Eng.pasted_get _ _ _ f1, if_pos hj]
    exact hcs j hj
  · rw [Go.Eng.pasted_get _ _ _ f2, if_pos (by omega), Go.Eng.pasted_get _ _ _ f1, if_neg (by omega), g2, if_pos hj2, List.getElem?_toArray]
  · rw [Go.Eng.pasted_get _ _ _ f2, if_neg (by omega), g1, if_pos (by omega), List.getElem?_toArray, List.getElem?_drop]
    congr 1; omega
structure InsOk (P : Program) (g sz by_ : Nat) : Prop where
  enters : Enters P g
  pos : 0 < sz
  shift : ∀ (b n c i vb vo m vc : Nat) (cells : Array Value) (t : TypeId) (cs vs : List Value) (vcells : Array Value) (vt : TypeId) (w : World), i < n → 0 < m → n + m ≤ c → n + m < 1048576 → vb ≠ b →
    w.heap[b]? = some (.cells cells t (0, 0)) → cells.size = c * sz → cs.length = n * sz → (∀ (j : Nat) (v : Value), cs[j]? = some v → cells[j]? = some v) → (∀ v ∈ cs, one v) →
    w.heap[vb]? = some (.cells vcells vt (0, 0)) → vs.length = m * sz → (∀ (j : Nat) (v : Value), vs[j]? = some v → vcells[vo + j]? = some v) → (∀ v ∈ vs, one v) →
    Calls P g #[.slice (some ⟨b, 0, none⟩) n c, .int .i64 (i : Int), .slice (some ⟨vb, vo, none⟩) m vc] w fun e w' => e = .returned (.slice (some ⟨b, 0, none⟩) (n + m) c) ∧
      (∃ cells', w'.heap[b]? = some (.cells cells' t (0, 0)) ∧ cells'.size = c * sz ∧ ∀ (j : Nat) (v : Value), (cs.take (i * sz) ++ (vs ++ cs.drop (i * sz)))[j]? = some v → cells'[j]? = some v) ∧
      (∀ k, k ≠ b → w'.heap[k]? = w.heap[k]?) ∧ w'.heap.size = w.heap.size ∧ w'.os = w.os ∧ w'.tape = w.tape ∧ w'.output = w.output
  grow : ∀ (b n c i vb vo m vc : Nat) (cells : Array Value) (t : TypeId) (cs vs : List Value) (vcells : Array Value) (vt : TypeId) (w : World), i < n → 0 < m → n ≤ c → c < n + m → n + m < 1048576 → (n + m) * by_ ≤ 140737488355328 → vb ≠ b →
    w.heap[b]? = some (.cells cells t (0, 0)) → cells.size = c * sz → cs.length = n * sz → (∀ (j : Nat) (v : Value), cs[j]? = some v → cells[j]? = some v) → (∀ v ∈ cs, one v) →
    w.heap[vb]? = some (.cells vcells vt (0, 0)) → vs.length = m * sz → (∀ (j : Nat) (v : Value), vs[j]? = some v → vcells[vo + j]? = some v) → (∀ v ∈ vs, one v) →
    Calls P g #[.slice (some ⟨b, 0, none⟩) n c, .int .i64 (i : Int), .slice (some ⟨vb, vo, none⟩) m vc] w fun e w' => ∃ c' cells' t', n + m ≤ c' ∧ e = .returned (.slice (some ⟨w.heap.size, 0, none⟩) (n + m) c') ∧
      w'.heap[w.heap.size]? = some (.cells cells' t' (0, 0)) ∧ cells'.size = c' * sz ∧ (∀ (j : Nat) (v : Value), (cs.take (i * sz) ++ (vs ++ cs.drop (i * sz)))[j]? = some v → cells'[j]? = some v) ∧
      (∀ k, k < w.heap.size → w'.heap[k]? = w.heap[k]?) ∧ w'.heap.size = w.heap.size + 1 ∧ w'.os = w.os ∧ w'.tape = w.tape ∧ w'.output = w.output
theorem fcIns_ok {P : Program} {g sz by_ : Nat} {fc0 : FC} (hI : InsOk P g sz by_) (h0 : FcOk P g fc0) : FcOk P g (fcIns sz by_ fc0) := fun xs h k r hl e => by
  match xs, e with
  | [s, i, v], e =>
    have e : cndR (Nat.beq (Nat.land s.n 31) 8) (slO s.n fun b off len c => cndR (Nat.beq (Nat.land i.n 31) 0) (cndR (Nat.ble len (Nat.shiftRight i.n 5)) (fc0.f [s, i, v] h k)
      (cndR (Nat.beq c 0) (cndR (Nat.beq off 0) (cndR (Nat.beq (Nat.land v.n 31) 8) (slO v.n fun vb _ _ _ => cndR (Nat.beq vb b) none (rowsK vb h fun _ _ _ => contK sz s h fun olds => contK sz v h fun news => rcL news none fun n0 nt => (insB (Nat.shiftRight i.n 5)).f olds (n0 :: nt) fun rows =>
        rowsK b h fun _ e _ => cndR (Nat.beq e sz) (putK b (mk0 0) h fun h => newS sz by_ rows h k) none)) none) none) none)) none) (fc0.f [s, i, v] h k) = some r := e
    rcases cndR_some e with ⟨t, e1⟩ | ⟨_, e1⟩
    · have t := tagT t
      have e2 := slO_some e1
      obtain ⟨ti, e3⟩ := cndR_t e2
      have ti := tagT ti
      rw [show Nat.shiftRight i.n 5 = i.n / 32 from shr _ 5] at e3
      rcases cndR_some e3 with ⟨_, e4⟩ | ⟨tl, e4⟩
      · exact h0 _ _ _ _ hl e4
      have tl : i.n / 32 < s.n / 64 % 1048576 := bleF tl
      obtain ⟨tc, e5⟩ := cndR_t e4
      have tc := beqT tc
      obtain ⟨to, e6⟩ := cndR_t e5
      have to := beqT to
      obtain ⟨tv, e7⟩ := cndR_t e6
      have tv := tagT tv
      have e8 := slO_some e7
      rcases cndR_some e8 with ⟨_, e9⟩ | ⟨tb, e9⟩
      · cases e9
      have tb : v.n / 64 / 1048576 / 1048576 ≠ s.n / 64 / 1048576 / 1048576 := beqF tb
      obtain ⟨vn, vrows, hvg, hvk, e9⟩ := rowsK_some e9
      obtain ⟨olds, e10, holds⟩ := contK_some e9
      obtain ⟨news, e11, hnews⟩ := contK_some e10
      cases news with
      | nil => cases (show (none : R) = some r from e11)
      | cons n0 nt =>
      obtain ⟨hin, e12⟩ := insB_some (show (insB (i.n / 32)).f olds (n0 :: nt) _ = some r from e11)
      clear e11 e10 e9 e8 e7 e6 e5 e4 e3 e2 e1
      have hmp : 0 < (n0 :: nt).length := by simp
      generalize n0 :: nt = news at *
      obtain ⟨bn, rows, hg, hk, e13⟩ := rowsK_some e12
      obtain ⟨t2, e14⟩ := cndR_t e13
      have t2 := beqT t2
      obtain ⟨hfl, hb', e15⟩ := putK_some e14
      obtain ⟨hb1, hb2, hn, x, bo, e16, hx⟩ := newS_raw e15
      have hn' : h.n < 65536 := hn
      refine ⟨x, _, e16, (HLe.put hfl hb').trans (.al _ _ _ hn), fun _ w0 V w vals hm hd => ⟨hI.enters, ?_⟩⟩
      obtain ⟨us, r1, hv1, ds, hd1⟩ := denL_cons.1 hd
      obtain ⟨ui, r2, rfl, di, hd2⟩ := denL_cons.1 hd1
      obtain ⟨uv, r3, rfl, dv, hd3⟩ := denL_cons.1 hd2
      have := denL_nil.1 hd3
      subst this
      have hvals : vals = #[us, ui, uv] := Array.toList_inj.1 (by simpa using hv1)
      subst hvals
      have hi := (den0 ti).1 di
      obtain ⟨hb, cap, hu, hle, _, hcl⟩ := (den8 t).1 ds
      have hcl := hcl tc
      obtain ⟨hvb, vcap, huv, _⟩ := (den8 tv).1 dv
      obtain ⟨ovals, ad, ocap, o4, o5, o6, o7, o8, o9⟩ := holds w0 V w _ hm ds
      obtain ⟨nvals, ad', ncap, n4, n5, n6, n7, n8, n9⟩ := hnews w0 V w _ hm dv
      rw [hu] at o4
      rw [huv] at n4
      simp only [Value.slice.injEq] at o4 n4
      obtain ⟨o4a, o4b, o4c⟩ := o4
      obtain ⟨n4a, n4b, n4c⟩ := n4
      have o7 := o7 _ o4a.symm
      have n7 := n7 _ n4a.symm
      have to : s.n / 64 / 1048576 % 1048576 = 0 := to
      rw [to] at hu hcl o7
      obtain ⟨gl, g1, g2, _, _, cells, cty, g6, g7, _⟩ := hm.rows hb hg hk
      obtain ⟨vl, _, _, _, _, vcells, vty, v6, v7, _⟩ := hm.rows hvb hvg hvk
      have hsz : V.ε (s.n / 64 / 1048576 / 1048576) = sz := by rw [← g1]; exact t2
      rw [hsz, Nat.zero_add] at hcl
      rw [o4b] at hu tl hle
      rw [n4b] at huv
      have hρ : V.ρ (v.n / 64 / 1048576 / 1048576) ≠ V.ρ (s.n / 64 / 1048576 / 1048576) := fun e => tb (hm.inj _ _ hvb hb vl gl e)
      generalize s.n / 64 / 1048576 / 1048576 = b at *
      generalize v.n / 64 / 1048576 / 1048576 = vb at *
      generalize v.n / 64 / 1048576 % 1048576 = vo at *
      generalize i.n / 32 = iv at *
      have o7 : ∀ (j : Nat) (u : Value), ovals[j]? = some u → cells[j]? = some u := fun j u hj => by
        have := o7 j u hj
        rw [add_at, Go.Eng.cell_heap g6, Nat.zero_add] at this
        exact this
      have n7 : ∀ (j : Nat) (u : Value), nvals[j]? = some u → vcells[vo + j]? = some u := fun j u hj => by
        have := n7 j u hj
        rw [add_at, Go.Eng.cell_heap v6] at this
        exact this
      rw [← hcl] at g7
      have hR : RowsR V sz (olds.take iv ++ (news ++ olds.drop iv)) (ovals.take (iv * sz) ++ (nvals ++ ovals.drop (iv * sz))).toArray :=
        (o9.takeV iv).append ((n9.append (o9.dropV iv) n5)) (by rw [List.length_take, List.length_take, o5, Nat.min_eq_left (Nat.mul_le_mul_right _ hin), Nat.min_eq_left hin])
      have hlen : (olds.take iv ++ (news ++ olds.drop iv)).length = olds.length + news.length := by
        rw [List.length_append, List.length_append, List.length_take, List.length_drop, Nat.min_eq_left hin]; omega
      rw [hlen] at hb1 hb2 hx
      obtain ⟨km, ks⟩ := hm.kill hb hfl gl
      subst hu
      subst huv
      have hi : ui = .int .i64 (iv : Int) := hi
      subst hi
      have rows_at : ∀ (cells' : Array Value), (∀ (j : Nat) (v : Value), (ovals.take (iv * sz) ++ (nvals ++ ovals.drop (iv * sz)))[j]? = some v → cells'[j]? = some v) → RowsR V sz (olds.take iv ++ (news ++ olds.drop iv)) cells' := fun cells' hc k row hk => by
        obtain ⟨a1, a2, a3⟩ := hR k row hk
        exact ⟨a1, a2, fun j c hj => by
          obtain ⟨u, a4, a5⟩ := a3 j c hj
          rw [List.getElem?_toArray] at a4
          exact ⟨u, hc _ _ a4, a5⟩⟩
      by_cases hroom : olds.length + news.length ≤ cap
      · -- in place
        refine (hI.shift (V.ρ b) olds.length cap iv (V.ρ vb) vo news.length vcap cells cty ovals nvals vcells vty w tl hmp hroom hb2 hρ g6 g7 o5 o7 o8 v6 n5 n7 n8).mono fun e w' ⟨f1, ⟨cells', f2, f3, f4⟩, f5, f6, f7, f8, f9⟩ => ?_
        have hkl : ¬ live (gH (hPut h b (mk0 0)) b) := by
          rw [show gH (hPut h b (mk0 0)) b = mk0 0 by
            show (tr8.get b).g (tr8.pt h.t b (mk0 0)) = _
            rw [gH_pt hb' hb', if_pos rfl]]
          unfold live; simp
        have hno : ∀ k, V.S k → live (gH (hPut h b (mk0 0)) k) → V.ρ k ≠ V.ρ b := fun k hk hlk hρ => by
          by_cases e : k = b
          · subst e; exact hkl hlk
          · have : gH (hPut h b (mk0 0)) k = gH h k := by
              show (tr8.get k).g (tr8.pt h.t b (mk0 0)) = _
              rw [gH_pt hb' (hm.nb k hk).2, if_neg e]
            rw [this] at hlk
            exact e (hm.inj k b hk hb hlk gl hρ)
        have hE2 : Ext V (addV V (hPut h b (mk0 0)).n (V.ρ b) (V.σ b) sz) := addV_ext hm.notS
        have hB : BlkR (addV V (hPut h b (mk0 0)).n (V.ρ b) (V.σ b) sz) w' (hPut h b (mk0 0)).n ⟨32 * sz + 2, olds.take iv ++ (news ++ olds.drop iv), bo⟩ := by
          unfold BlkR
          simp only [show (32 * sz + 2) % 32 = 2 by omega]
          rw [addV_ρ, addV_σ, addV_ε]
          exact ⟨cells', cty, f2, by rw [f3, hcl], by omega, hI.pos, by rw [hlen, ← hcl]; exact Nat.mul_le_mul_right _ hroom, (rows_at cells' f4).mono hE2⟩
        obtain ⟨r1, r2⟩ := km.rename (fl := h.fl) hn hb hfl hkl hno (w' := w') f5 f6 f7 f8 f9 hB
        have hxx := hx (addV V (hPut h b (mk0 0)).n (V.ρ b) (V.σ b) sz) cap (.inr rfl) hroom (by rw [addV_ε, addV_σ]; exact hcl)
        rw [addV_ρ] at hxx
        exact ⟨_, _, f1, r1, hxx, ks.trans (h' := hPut h b (mk0 0)) (Nat.le_refl _) r2⟩
      · -- moved
        refine (hI.grow (V.ρ b) olds.length cap iv (V.ρ vb) vo news.length vcap cells cty ovals nvals vcells vty w tl hmp hle (by omega) hb2 hb1 hρ g6 g7 o5 o7 o8 v6 n5 n7 n8).mono fun e w' ⟨c', cells', t', f0, f1, f2, f3, f4, f5, f6, f7, f8, f9⟩ => ?_
        have hE2 : Ext V (addV V (hPut h b (mk0 0)).n w.heap.size (c' * sz) sz) := addV_ext hm.notS
        have hB : BlkR (addV V (hPut h b (mk0 0)).n w.heap.size (c' * sz) sz) w' (hPut h b (mk0 0)).n ⟨32 * sz + 2, olds.take iv ++ (news ++ olds.drop iv), bo⟩ := by
          unfold BlkR
          simp only [show (32 * sz + 2) % 32 = 2 by omega]
          rw [addV_ρ, addV_σ, addV_ε]
          exact ⟨cells', t', f2, f3, by omega, hI.pos, by rw [hlen]; exact Nat.mul_le_mul_right _ f0, (rows_at cells' f4).mono hE2⟩
        obtain ⟨r1, r2⟩ := km.alloc hn (Nat.le_refl _) (by omega) f5 f7 f8 f9 hB h.fl
        have hxx := hx (addV V (hPut h b (mk0 0)).n w.heap.size (c' * sz) sz) c' (.inr rfl) f0 (by rw [addV_ε, addV_σ])
        rw [addV_ρ] at hxx
        exact ⟨_, _, f1, r1, hxx, ks.trans (h' := hPut h b (mk0 0)) (Nat.le_refl _) r2⟩
    · exact h0 _ _ _ _ hl e1
end
end Go.M
