/-
  The engine, part 9: a region whose order is open is sound.
  No condition: lemmas.
-/
import Derived.Test.YteonhcjaekodkaaEng6
import Derived.Test.YteonhcjaekodkaaEng8
import Derived.Orders
set_option linter.all false
namespace Go.Eng
open Go

def uT (x : SOper × Rec) : List (Nat × AV) := match x.1.dst with
  | some d => [(d, x.2.val)]
  | none => []
def uH (x : SOper × Rec) : List (Nat × Ob) := x.2.upd
def foot (r : Rec) : Foot := (r.rd, r.upd.map Prod.fst)
def Rec.skip : Rec := ⟨.v undef, [], []⟩

theorem putA_eq (t : List (Nat × AV)) (o : SOper) (r : Rec) : putA t o.dst r.val = uT (o, r) ++ t := by
  unfold putA uT
  cases o.dst <;> rfl

section
variable {P : Program} {nm : Nat} {t t' : List (Nat × AV)} {h h' : List (Nat × Ob)}

theorem ev_tmps : ∀ (l : List Operand), (∀ k ∈ tmpsO l, get t' k = get t k) → ∀ x ∈ l, ev t' x = ev t x
  | [], _, x, hx => by simp at hx
  | y :: l, h, x, hx => by
    rcases List.mem_cons.1 hx with rfl | hx
    · cases x <;> simp only [tmpsO, List.mem_cons, forall_eq_or_imp] at h <;> simp only [ev]
      exact h.1
    · refine ev_tmps l (fun k hk => h k ?_) x hx
      cases y <;> simp only [tmpsO, List.mem_cons] <;> first | exact hk | exact .inr hk

/-- An operation does its record wherever what it looks at is alike. -/
def ActD (P : Program) (nm : Nat) (o : SOper) (t : List (Nat × AV)) (h : List (Nat × Ob)) (r : Rec) : Prop :=
  ∀ t' h', (∀ k ∈ tmpsO (opnds o.op), get t' k = get t k) → (∀ b ∈ r.rd, get h' b = get h b) → ∀ Q : List (Nat × AV) → List (Nat × Ob) → Prop,
    Q (putA t' o.dst r.val) (r.upd ++ h') → wpOper P nm o t' h' Q

theorem wpOpD_spec {o : SOper} {k : Rec → Prop} (hw : wpOpD P nm o t h k) : ∃ r, k r ∧ ActD P nm o t h r := by
  unfold wpOpD at hw
  split at hw
  · rename_i f args hop
    unfold onF at hw
    split at hw
    · rename_i g caps xs hf hxs
      obtain ⟨r, hc, hk⟩ := hw
      refine ⟨r, hk, fun t' h' ht hb Q hQ => ?_⟩
      have he := ev_tmps _ ht
      simp only [hop, opnds, List.mem_cons, forall_eq_or_imp] at he
      unfold wpOper
      rw [hop]
      simp only [he.1, evL_congr args he.2, hf, hxs, onF]
      exact hc h' hb _ hQ
    · exact hw.elim
  · rename_i neg x hop
    unfold onNilD at hw
    split at hw
    · rename_i b hb
      refine ⟨_, hw, fun t' h' ht _ Q hQ => ?_⟩
      have he := ev_tmps _ ht
      simp only [hop, opnds, List.mem_cons, List.not_mem_nil, or_false, forall_eq] at he
      unfold wpOper
      rw [hop]
      simp only [he, hb, onNil]
      exact hQ
    · exact hw.elim
  · rename_i op h1 h2
    unfold onE at hw
    split at hw
    · rename_i e he
      refine ⟨_, hw.2, fun t' h' ht hb Q hQ => ?_⟩
      have hd := eff_dep (nm := nm) o.op (ev_tmps _ ht) hb
      rw [he] at hd
      unfold wpOper
      split
      · rename_i f args hop; exact absurd hop (h1 f args)
      · rename_i neg x hop; exact absurd hop (h2 neg x)
      · unfold onW; rw [hd]; exact ⟨hw.1, hQ⟩
    · exact hw.elim

/-- One operation with its guard. -/
def StepD (P : Program) (nm : Nat) (o : SOper) (t : List (Nat × AV)) (h : List (Nat × Ob)) (r : Rec) : Prop :=
  (o.guard = none ∧ ActD P nm o t h r) ∨ ∃ g want, o.guard = some (g, want) ∧
    ((get t g = some (.v (.bool want)) ∧ ActD P nm o t h r) ∨ (r = Rec.skip ∧ ((get t g = some (.v (.bool (!want)))) ∨ ∃ xs, get t g = some (.v (.tuple xs)))))

theorem wpDrawL_spec : ∀ (l : List SOper) (nm : Nat) (acc : List Foot) (t : List (Nat × AV)) (h : List (Nat × Ob)) (Q : List Foot → List (Nat × AV) → List (Nat × Ob) → Prop),
    wpDrawL P nm l acc t h Q → ∃ rs : List Rec, rs.length = l.length ∧ Q ((rs.map foot).reverse ++ acc) (foldG uT (l.zip rs) (fun _ => true) t) (foldG uH (l.zip rs) (fun _ => true) h) ∧
      ∀ j o r, l[j]? = some o → rs[j]? = some r → StepD P (nm + 8 * j) o (foldG uT (l.zip rs) (fun i => decide (i < j)) t) (foldG uH (l.zip rs) (fun i => decide (i < j)) h) r
  | [], nm, acc, t, h, Q, hw => ⟨[], rfl, hw, fun j o r ho => by simp at ho⟩
  | o :: l, nm, acc, t, h, Q, hw => by
    apply Classical.byContradiction
    intro hno
    have key : ∀ r, StepD P nm o t h r → wpDrawL P (nm + 8) l (foot r :: acc) (putA t o.dst r.val) (r.upd ++ h) Q → False := by
      intro r hr hw
      obtain ⟨rs, h1, h2, h3⟩ := wpDrawL_spec l _ _ _ _ Q hw
      refine hno ⟨r :: rs, by simp [h1], ?_, fun j o' r' ho hr' => ?_⟩
      · simp only [List.map_cons, List.reverse_cons, List.append_assoc, List.singleton_append, List.zip_cons_cons, foldG, cond_true]
        rw [← putA_eq]
        exact h2
      · cases j with
        | zero =>
          simp only [List.getElem?_cons_zero, Option.some.injEq] at ho hr'
          subst ho; subst hr'
          simp only [Nat.mul_zero, Nat.add_zero, Nat.not_lt_zero, decide_false, foldG_none]
          exact hr
        | succ j =>
          have := h3 j o' r' (by simpa using ho) (by simpa using hr')
          have e1 : nm + 8 + 8 * j = nm + 8 * (j + 1) := by omega
          rw [e1] at this
          simp only [List.zip_cons_cons, foldG, Nat.zero_lt_succ, decide_true, cond_true, Nat.add_lt_add_iff_right]
          rw [← putA_eq]
          exact this
    have kskip : (∃ g want, o.guard = some (g, want) ∧ ((get t g = some (.v (.bool (!want)))) ∨ ∃ xs, get t g = some (.v (.tuple xs)))) →
        wpDrawL P (nm + 8) l (([], []) :: acc) (putA t o.dst (.v undef)) h Q → False := fun hg hw =>
      key Rec.skip (.inr (by obtain ⟨g, want, e, hh⟩ := hg; exact ⟨g, want, e, .inr ⟨rfl, hh⟩⟩)) hw
    simp only [wpDrawL] at hw
    split at hw
    · rename_i hg
      obtain ⟨r, hk, hr⟩ := wpOpD_spec hw
      exact key r (.inl ⟨hg, hr⟩) hk
    · rename_i g want hg
      unfold onG at hw
      split at hw
      · rename_i b hb
        have kact : b = want → wpOpD P nm o t h (fun r => wpDrawL P (nm + 8) l ((r.rd, r.upd.map Prod.fst) :: acc) (putA t o.dst r.val) (r.upd ++ h) Q) → False := fun e hw' => by
          subst e
          obtain ⟨r, hk, hr⟩ := wpOpD_spec hw'
          exact key r (.inr ⟨g, b, hg, .inl ⟨hb, hr⟩⟩) hk
        cases b <;> cases want
        · exact kact rfl (hw.2 rfl)
        · exact kskip ⟨g, true, hg, .inl hb⟩ (hw.2 rfl)
        · exact kskip ⟨g, false, hg, .inl hb⟩ (hw.1 rfl)
        · exact kact rfl (hw.1 rfl)
      · rename_i xs hb
        exact kskip ⟨g, want, hg, .inr ⟨xs, hb⟩⟩ hw
      · exact hw.elim
end

theorem HR.ext {C : Ctx} {ρ : Nat → Loc} {U : Nat → Prop} {h h' : List (Nat × Ob)} {w : World} (hr : HR C ρ U h w) (e : ∀ b, get h' b = get h b) : HR C ρ U h' w :=
  { hr with
    hp := fun b o hb => hr.hp b o (by rw [← e]; exact hb)
    hd := fun b hb => hr.hd b (by rw [← e]; exact hb)
    fix := fun b l hb => by
      obtain ⟨h1, h2, cs, h3⟩ := hr.fix b l hb
      exact ⟨h1, h2, cs, by rw [e]; exact h3⟩ }

theorem Sim.ext {C : Ctx} {ρ : Nat → Loc} {U : Nat → Prop} {t t' : List (Nat × AV)} {h h' : List (Nat × Ob)} {a : Act} {w : World} (hS : Sim C ρ U t h a w) (e1 : ∀ k, get t' k = get t k)
    (e2 : ∀ b, get h' b = get h b) : Sim C ρ U t' h' a w :=
  ⟨hS.hr.ext e2, fun k x hk => hS.tm k x (by rw [← e1]; exact hk), hS.defers, hS.sz⟩

section draw
variable {P : Program} {C : Ctx} {ops : Array Oper} {sl : List SOper} {rs : List Rec} {n : Nat} {t0 : List (Nat × AV)} {h0 : List (Nat × Ob)} {K : Exit → Act → World → Prop}

/-- A set of the operations that is closed under what comes before. -/
def Closed (sl : List SOper) (D : Nat → Bool) : Prop := ∀ i o, D i = true → sl[i]? = some o → ∀ e ∈ o.after, D e = true

/-- The state when the set D is done. -/
def Inv (C : Ctx) (sl : List SOper) (rs : List Rec) (n : Nat) (t0 : List (Nat × AV)) (h0 : List (Nat × Ob)) (D : Nat → Bool) (a : Act) (w : World) : Prop :=
  ∃ ρ U, Sim C ρ U (foldG uT (sl.zip rs) D t0) (foldG uH (sl.zip rs) D h0) a w ∧ (∀ b, U b → b < n ∨ ∃ i, D i = true ∧ i < sl.length ∧ n + 8 * i ≤ b ∧ b < n + 8 * i + 8)

theorem noconf_spec {x y : SOper × Foot} (h : noconf x y = true) :
    (∀ d, x.1.dst = some d → d ∉ uses y.1 ∧ y.1.dst ≠ some d) ∧ (∀ d, y.1.dst = some d → d ∉ uses x.1) ∧
      (∀ b ∈ x.2.2, b ∉ y.2.1 ∧ b ∉ y.2.2) ∧ (∀ b ∈ y.2.2, b ∉ x.2.1) := by
  simp only [noconf, Bool.and_eq_true] at h
  obtain ⟨h1, h2, h3, h4, h5⟩ := h
  refine ⟨fun d hd => ?_, fun d hd => ?_, fun b hb => ⟨offB_spec h3 hb, offB_spec h4 hb⟩, fun b hb => offB_spec h5 hb⟩
  · rw [hd] at h1
    simpa using h1
  · rw [hd] at h2
    simpa using h2

/-- An operation, its record, what they are among the others. -/
structure Meets (sl : List SOper) (rs : List Rec) (D : Nat → Bool) (j : Nat) (o : SOper) (r : Rec) : Prop where
  tr : ∀ k ∈ uses o, ∀ i x, (sl.zip rs)[i]? = some x → k ∈ keys (uT x) → D i = decide (i < j)
  hr : ∀ b ∈ r.rd, ∀ i x, (sl.zip rs)[i]? = some x → b ∈ keys (uH x) → D i = decide (i < j)
  tw : ∀ i y, j < i → D i = true → (sl.zip rs)[i]? = some y → ∀ k ∈ keys (uT (o, r)), k ∉ keys (uT y)
  hw : ∀ i y, j < i → D i = true → (sl.zip rs)[i]? = some y → ∀ k ∈ keys (uH (o, r)), k ∉ keys (uH y)

theorem keys_uT {x : SOper × Rec} {k : Nat} (h : k ∈ keys (uT x)) : x.1.dst = some k := by
  unfold uT keys at h
  split at h
  · rename_i d hd; simp at h; rw [hd, h]
  · simp at h

theorem meets (hlen : rs.length = sl.length) (hok : okDraw sl (rs.map foot) = true) {D : Nat → Bool} (hD : Closed sl D) {j : Nat} {o : SOper} {r : Rec} (ho : sl[j]? = some o) (hr : rs[j]? = some r)
    (hj : D j = false) (hjr : ∀ e ∈ o.after, D e = true) : Meets sl rs D j o r := by
  simp only [okDraw, Bool.and_eq_true] at hok
  have haf := okAfter_spec sl 0 hok.1
  have hp := okPairs_spec _ _ _ 0 hok.2
  have hbef : BefOk (sl.map (·.after)) (befGo [] (sl.map (·.after))) := befGo_ok _ _ [] (by simp) (by simp) (fun j m h => by simp at h)
  have hz : ∀ (i : Nat) (x : SOper × Rec), (sl.zip rs)[i]? = some x → sl[i]? = some x.1 ∧ rs[i]? = some x.2 := fun i x hx => by
    rw [List.getElem?_zip_eq_some] at hx
    exact hx
  have hzf : ∀ (i : Nat) (x : SOper) (r' : Rec), sl[i]? = some x → rs[i]? = some r' → (sl.zip (rs.map foot))[i]? = some (x, foot r') := fun i x r' h1 h2 => by
    rw [List.getElem?_zip_eq_some]
    refine ⟨h1, ?_⟩
    rw [List.getElem?_map, h2]; rfl
  have hDc : ∀ (i : Nat) (af : List Nat), D i = true → (sl.map (·.after))[i]? = some af → ∀ e ∈ af, D e = true := fun i af hi haf => by
    rw [List.getElem?_map] at haf
    cases hs : sl[i]? with
    | none => rw [hs] at haf; simp at haf
    | some x => rw [hs] at haf; simp at haf; subst haf; exact hD i x hi hs
  have hbit : ∀ (i i' : Nat) (x : SOper), sl[i]? = some x → (∀ e ∈ x.after, D e = true) → ((befGo [] (sl.map (·.after))).getD i 0).testBit i' = true → D i' = true := fun i i' x hx hxe hb => by
    rcases Nat.lt_or_ge i (befGo [] (sl.map (·.after))).length with h1 | h1
    · refine hbef i _ (by rw [List.getD_eq_getElem?_getD, List.getElem?_eq_getElem h1]; rfl) D hDc (fun af haf => ?_) i' hb
      rw [List.getElem?_map, hx] at haf
      simp at haf
      subst haf
      exact hxe
    · rw [List.getD_eq_getElem?_getD, List.getElem?_eq_none h1] at hb
      simp at hb
  -- the pairs
  have hlo : ∀ i x, i < j → (sl.zip rs)[i]? = some x → D i = true ∨ noconf (x.1, foot x.2) (o, foot r) = true := fun i x hi hx => by
    obtain ⟨h1, h2⟩ := hz i x hx
    rcases hp j _ (hzf j o r ho hr) i _ (by omega) (hzf i x.1 x.2 h1 h2) with h | h
    · rw [Nat.zero_add] at h
      exact .inl (hbit j i o ho hjr h)
    · exact .inr h
  have hhi : ∀ i x, j < i → D i = true → (sl.zip rs)[i]? = some x → noconf (o, foot r) (x.1, foot x.2) = true := fun i x hi hd hx => by
    obtain ⟨h1, h2⟩ := hz i x hx
    rcases hp i _ (hzf i x.1 x.2 h1 h2) j _ (by omega) (hzf j o r ho hr) with h | h
    · rw [Nat.zero_add] at h
      have := hbit i j x.1 h1 (hD i x.1 hd h1) h
      rw [hj] at this; cases this
    · exact h
  have hcase : ∀ i x, (sl.zip rs)[i]? = some x → (i < j → noconf (x.1, foot x.2) (o, foot r) = true → False) → (j < i → noconf (o, foot r) (x.1, foot x.2) = true → False) → D i = decide (i < j) := fun i x hx h1 h2 => by
    rcases Nat.lt_trichotomy i j with hi | rfl | hi
    · rw [decide_eq_true hi]
      exact (hlo i x hi hx).resolve_right (h1 hi)
    · rw [decide_eq_false (by omega)]; exact hj
    · rw [decide_eq_false (by omega)]
      cases hd : D i with
      | false => rfl
      | true => exact (h2 hi (hhi i x hi hd hx)).elim
  refine ⟨fun k hk i x hx hm => hcase i x hx (fun _ hc => ?_) (fun _ hc => ?_), fun b hb i x hx hm => hcase i x hx (fun _ hc => ?_) (fun _ hc => ?_), fun i y hi hd hy k hk hk' => ?_, fun i y hi hd hy k hk hk' => ?_⟩
  · exact ((noconf_spec hc).1 k (keys_uT hm)).1 hk
  · exact (noconf_spec hc).2.1 k (keys_uT hm) hk
  · exact ((noconf_spec hc).2.2.1 b hm).1 hb
  · exact (noconf_spec hc).2.2.2 b hm hb
  · exact ((noconf_spec (hhi i y hi hd hy)).1 k (keys_uT hk)).2 (keys_uT hk')
  · exact ((noconf_spec (hhi i y hi hd hy)).2.2.1 k hk).2 hk'


theorem stripOps_get {draw : Bool} : ∀ (l : List Oper) (sl : List SOper), stripOps P ops draw l = some sl → l.length = sl.length ∧ ∀ (j : Nat) (o : Oper), l[j]? = some o → ∃ so, sl[j]? = some so ∧ stripOper P ops draw o = some so
  | [], sl, hs => by
    simp only [stripOps, Option.some.injEq] at hs
    subst hs
    exact ⟨rfl, fun j o h => by simp at h⟩
  | o :: l, sl, hs => by
    obtain ⟨so, sl', rfl, h1, h2⟩ := stripOps_cons hs
    obtain ⟨h3, h4⟩ := stripOps_get l sl' h2
    refine ⟨by simp [h3], fun j o' h => ?_⟩
    cases j with
    | zero => simp at h; subst h; exact ⟨so, rfl, h1⟩
    | succ j => simpa using h4 j o' (by simpa using h)

theorem stripOper_after {o : Oper} {so : SOper} (hs : stripOper P ops true o = some so) :
    so.after = o.after.toList.filterMap fun e => match e.ground with | .textOnly _ => none | .gcOnly _ => none | _ => some e.on := by
  unfold stripOper at hs
  split at hs
  · split at hs
    · cases hs; rfl
    · split at hs
      · cases hs; rfl
      · cases hs
  · cases hs

theorem after_iff {o : Oper} {so : SOper} (hs : stripOper P ops true o = some so) (D : Nat → Prop) :
    (∀ e ∈ o.after, Region.binds .any e = true → D e.on) ↔ ∀ i ∈ so.after, D i := by
  rw [stripOper_after hs]
  constructor
  · intro h i hi
    rw [List.mem_filterMap] at hi
    obtain ⟨e, he, h1⟩ := hi
    have hem : e ∈ o.after := by simpa using he
    have : Region.binds .any e = true ∧ e.on = i := by
      unfold Region.binds
      split at h1 <;> simp_all
    rw [← this.2]; exact h e hem this.1
  · intro h e he hb
    refine h e.on ?_
    rw [List.mem_filterMap]
    refine ⟨e, by simpa using he, ?_⟩
    unfold Region.binds at hb
    split at hb <;> simp_all

theorem okDst_get : ∀ (sl : List SOper) {nt : Nat}, okDst nt sl = true → ∀ (j : Nat) (o : SOper), sl[j]? = some o → ∀ d, o.dst = some d → d < nt
  | [], _, _, j, o, h => by simp at h
  | o :: l, nt, h, j, o', h' => by
    simp only [okDst, Bool.and_eq_true] at h
    cases j with
    | zero =>
      simp at h'; subst h'
      intro d hd
      have := h.1
      rw [hd] at this
      simpa using this
    | succ j => exact okDst_get l h.2 j o' (by simpa using h')

theorem inv_step (hs : stripOps P ops true ops.toList = some sl) (hdst : okDst C.nt sl = true) (hlen : rs.length = sl.length) (hok : okDraw sl (rs.map foot) = true)
    (hst : ∀ j o r, sl[j]? = some o → rs[j]? = some r → StepD P (n + 8 * j) o (foldG uT (sl.zip rs) (fun i => decide (i < j)) t0) (foldG uH (sl.zip rs) (fun i => decide (i < j)) h0) r)
    {D : Nat → Bool} (hD : Closed sl D) {j : Nat} {o : Oper} {so : SOper} (ho : ops[j]? = some o) (hso : sl[j]? = some so) (hs1 : stripOper P ops true o = some so) (hj : D j = false) (hjr : ∀ e ∈ so.after, D e = true)
    {a : Act} {w : World} (hI : Inv C sl rs n t0 h0 D a w) {next : Act → World → Prop} (hn : ∀ a w, Inv C sl rs n t0 h0 (setD D j) a w → next a w) :
    wpOp P ops K j next a w := by
  obtain ⟨r, hr⟩ : ∃ r, rs[j]? = some r := by
    have : j < rs.length := by rw [hlen]; exact (List.getElem?_eq_some_iff.1 hso).1
    exact ⟨_, List.getElem?_eq_getElem this⟩
  have hz : (sl.zip rs)[j]? = some (so, r) := by rw [List.getElem?_zip_eq_some]; exact ⟨hso, hr⟩
  have hm := meets hlen hok hD hso hr hj hjr
  obtain ⟨h1, h2, h3, h4⟩ := stripOper_some hs1
  obtain ⟨ρ, U, hS, hU⟩ := hI
  have hrt : ∀ k ∈ uses so, get (foldG uT (sl.zip rs) D t0) k = get (foldG uT (sl.zip rs) (fun i => decide (i < j)) t0) k := fun k hk =>
    foldG_read _ _ _ _ _ k rfl fun i x hx hm' => hm.tr k hk i x hx hm'
  have hrh : ∀ b ∈ r.rd, get (foldG uH (sl.zip rs) D h0) b = get (foldG uH (sl.zip rs) (fun i => decide (i < j)) h0) b := fun b hb =>
    foldG_read _ _ _ _ _ b rfl fun i x hx hm' => hm.hr b hb i x hx hm'
  have hdj : ∀ d, o.dst = some d → d < C.nt := fun d hd => okDst_get sl hdst j so hso d (by rw [h2]; exact hd)
  have hend : ∀ a' w' ρ' U', Sim C ρ' U' (putA (foldG uT (sl.zip rs) D t0) so.dst r.val) (r.upd ++ foldG uH (sl.zip rs) D h0) a' w' → (∀ b, U' b → U b ∨ (n + 8 * j ≤ b ∧ b < n + 8 * j + 8)) → next a' w' :=
    fun a' w' ρ' U' hS' hU' => hn a' w' ⟨ρ', U', hS'.ext (fun k => by rw [putA_eq]; exact foldG_insert hz hj hm.tw k) (fun b => foldG_insert hz hj hm.hw b), fun b hb => by
      rcases hU' b hb with h | h
      · rcases hU b h with h | ⟨i, hi, h⟩
        · exact .inl h
        · exact .inr ⟨i, by simp [setD, hi], h⟩
      · exact .inr ⟨j, by simp [setD], (List.getElem?_eq_some_iff.1 hso).1, h⟩⟩
  have hfr : ∀ b, U b → ¬ (n + 8 * j ≤ b ∧ b < n + 8 * j + 8) := fun b hb hh => by
    rcases hU b hb with h | ⟨i, hi, h⟩
    · omega
    · have : i = j := by omega
      subst this
      rw [hj] at hi; cases hi
  have hact : ActD P (n + 8 * j) so (foldG uT (sl.zip rs) (fun i => decide (i < j)) t0) (foldG uH (sl.zip rs) (fun i => decide (i < j)) h0) r →
      (∀ k ∈ tmpsO (opnds so.op), k ∈ uses so) → o.wp P a w next K := fun hA hu => by
    have := hA _ _ (fun k hk => hrt k (hu k hk)) hrh (fun t' h' => t' = putA (foldG uT (sl.zip rs) D t0) so.dst r.val ∧ h' = r.upd ++ foldG uH (sl.zip rs) D h0) ⟨rfl, rfl⟩
    obtain ⟨dst, op, gd, af⟩ := so
    simp only at h1 h2
    subst h2
    refine wpOper_sound h1 hS hfr hdj this fun t' h' a' w' ρ' U' hS' hU' hQ => ?_
    obtain ⟨rfl, rfl⟩ := hQ
    exact hend a' w' ρ' U' hS' hU'
  have hskip : r = Rec.skip → next (a.put o.dst undef) w := fun e => by
    refine hend _ _ ρ U ?_ fun b hb => .inl hb
    subst e
    have := hS.skip (dst := o.dst) hdj
    rw [h2]
    exact this
  unfold wpOp
  rw [ho]
  simp only
  rcases hst j so r hso hr with ⟨hg, hA⟩ | ⟨g, want, hg, hh⟩
  · have hg' := h3.1 hg
    have : Region.wanted o (yielded ops a.tmps) = true := by simp [Region.wanted, hg']
    rw [if_pos this]
    exact .inl (hact hA (fun k hk => by unfold uses; rw [hg]; exact hk))
  · obtain ⟨j', hj', hjd⟩ := h4 g want hg
    have hgu : g ∈ uses so := by unfold uses; rw [hg]; exact List.mem_cons_self ..
    have hgt := hrt g hgu
    rcases hh with ⟨hb, hA⟩ | ⟨e, hb | ⟨xs, hb⟩⟩
    · rw [hb] at hgt
      obtain ⟨u, hu, hv⟩ := hS.tm g _ hgt
      have := hv.v_inv
      subst this
      rw [wanted_bool hj' hjd hu]
      simp only [beq_self_eq_true, if_true]
      exact .inl (hact hA (fun k hk => by unfold uses; rw [hg]; exact List.mem_cons_of_mem _ hk))
    · rw [hb] at hgt
      obtain ⟨u, hu, hv⟩ := hS.tm g _ hgt
      have := hv.v_inv
      subst this
      rw [wanted_bool hj' hjd hu]
      have : ((!want) == want) = false := by cases want <;> rfl
      rw [this]
      exact hskip e
    · rw [hb] at hgt
      obtain ⟨u, hu, hv⟩ := hS.tm g _ hgt
      have := hv.v_inv
      subst this
      rw [wanted_tuple hj' hjd hu]
      exact hskip e

theorem countP_same {D : Nat → Bool} {j : Nat} : ∀ (l : List Nat), j ∉ l → l.countP (fun i => !(setD D j i)) = l.countP (fun i => !(D i))
  | [], _ => rfl
  | x :: l, h => by
    simp only [List.mem_cons, not_or] at h
    have e : setD D j x = D x := by simp [setD, Ne.symm h.1]
    rw [List.countP_cons, List.countP_cons, countP_same l h.2, e]

theorem countP_setD {D : Nat → Bool} {j : Nat} (hj : D j = false) : ∀ (l : List Nat), l.Nodup → j ∈ l → l.countP (fun i => !(setD D j i)) + 1 = l.countP (fun i => !(D i))
  | [], _, h => by simp at h
  | x :: l, hn, h => by
    rw [List.nodup_cons] at hn
    rcases List.mem_cons.1 h with rfl | h
    · rw [List.countP_cons, List.countP_cons, countP_same l hn.1]
      simp [setD, hj]
    · have hx : x ≠ j := fun e => hn.1 (e ▸ h)
      have e : setD D j x = D x := by simp [setD, hx]
      have := countP_setD hj l hn.2 h
      rw [List.countP_cons, List.countP_cons, e]
      omega

def ofL (listed : Array Bool) : Nat → Bool := fun i => listed.getD i false

theorem ofL_set {listed : Array Bool} {j : Nat} (hj : j < listed.size) : ofL (listed.setIfInBounds j true) = setD (ofL listed) j := by
  funext i
  unfold ofL setD
  by_cases e : i = j
  · subst e; simp [hj]
  · rw [getD_set_ne false (Ne.symm e)]
    have : (i == j) = false := by simp [e]
    rw [this, Bool.or_false]

theorem getD_true_false {listed : Array Bool} {j : Nat} (hj : j < listed.size) : listed.getD j true = listed.getD j false := by
  simp [hj]

theorem wpAny_inv (hs : stripOps P ops true ops.toList = some sl) (hdst : okDst C.nt sl = true) (hlen : rs.length = sl.length) (hok : okDraw sl (rs.map foot) = true)
    (hst : ∀ j o r, sl[j]? = some o → rs[j]? = some r → StepD P (n + 8 * j) o (foldG uT (sl.zip rs) (fun i => decide (i < j)) t0) (foldG uH (sl.zip rs) (fun i => decide (i < j)) h0) r)
    (hend : ∀ D a w, (∀ i, i < ops.size → D i = true) → Inv C sl rs n t0 h0 D a w → K .normal a w) :
    ∀ (fuel : Nat) (listed : Array Bool) (a : Act) (w : World), listed.size = ops.size → Closed sl (ofL listed) → (List.range ops.size).countP (fun i => !(ofL listed i)) ≤ fuel →
      Inv C sl rs n t0 h0 (ofL listed) a w → wpAny P .any ops K fuel listed a w := by
  obtain ⟨hl, hget⟩ := stripOps_get ops.toList sl hs
  have hokA : okAfter 0 sl = true := by
    simp only [okDraw, Bool.and_eq_true] at hok
    exact hok.1
  have hready : ∀ (listed : Array Bool) (j : Nat) (o : Oper) (so : SOper), listed.size = ops.size → ops[j]? = some o → sl[j]? = some so → stripOper P ops true o = some so → ofL listed j = false →
      (∀ e ∈ so.after, ofL listed e = true) → j ∈ Region.ready .any ops listed := fun listed j o so hsz ho hso h1 hj he => by
    have hlt : j < ops.size := (Array.getElem?_eq_some_iff.1 ho).1
    rw [mem_ready]
    refine ⟨by rw [getD_true_false (by omega)]; exact hj, o, ho, ?_⟩
    exact (after_iff h1 fun i => ofL listed i = true).2 he
  -- with nothing ready all is done
  have hall : ∀ (listed : Array Bool), listed.size = ops.size → Region.ready .any ops listed = [] → ∀ i, i < ops.size → ofL listed i = true := fun listed hsz hr i => by
    induction i using Nat.strongRecOn with
    | _ i ih =>
      intro hi
      apply Classical.byContradiction
      intro hne
      have hne' : ofL listed i = false := by simpa using hne
      obtain ⟨so, hso, h1⟩ := hget i ops[i] (by simp [hi])
      have := hready listed i ops[i] so hsz (by simp [hi]) hso h1 hne' fun e he => by
        have := okAfter_spec sl 0 hokA i so hso e he
        exact ih e (by omega) (by omega)
      rw [hr] at this
      simp at this
  intro fuel
  induction fuel with
  | zero =>
    intro listed a w hsz hc hf hI
    have hdone : ∀ i, i < ops.size → ofL listed i = true := fun i hi => by
      have h0 : (List.range ops.size).countP (fun i => !(ofL listed i)) = 0 := by omega
      rw [List.countP_eq_zero] at h0
      have := h0 i (by simpa using hi)
      simpa using this
    refine ⟨?_, hend _ a w hdone hI⟩
    apply List.eq_nil_iff_forall_not_mem.2
    intro j hj
    rw [mem_ready] at hj
    obtain ⟨h1, o, ho, _⟩ := hj
    have hlt : j < ops.size := (Array.getElem?_eq_some_iff.1 ho).1
    rw [getD_true_false (by omega)] at h1
    have := hdone j hlt
    unfold ofL at this
    rw [h1] at this; cases this
  | succ fuel ih =>
    intro listed a w hsz hc hf hI
    refine ⟨fun hr => hend _ a w (hall listed hsz hr) hI, fun j hj => ?_⟩
    rw [mem_ready] at hj
    obtain ⟨h1, o, ho, hb⟩ := hj
    have hlt : j < ops.size := (Array.getElem?_eq_some_iff.1 ho).1
    obtain ⟨so, hso, hs1⟩ := hget j o (by simpa using ho)
    have hjr := (after_iff hs1 fun i => ofL listed i = true).1 hb
    have hj0 : ofL listed j = false := by rw [getD_true_false (by omega)] at h1; exact h1
    refine inv_step hs hdst hlen hok hst hc ho hso hs1 hj0 hjr hI fun a' w' hI' => ?_
    have e := ofL_set (listed := listed) (j := j) (by omega)
    refine ih _ a' w' (by simp [hsz]) ?_ ?_ (by rw [e]; exact hI')
    · rw [e]
      intro i o' hi ho' x hx
      unfold setD at hi
      simp only [Bool.or_eq_true, beq_iff_eq] at hi
      rcases hi with hi | rfl
      · simp [setD, hc i o' hi ho' x hx]
      · rw [hso] at ho'; cases ho'
        simp [setD, hjr x hx]
    · rw [e]
      have := countP_setD hj0 (List.range ops.size) List.nodup_range (by simpa using hlt)
      omega

theorem Sim.world {ρ : Nat → Loc} {U : Nat → Prop} {t : List (Nat × AV)} {h : List (Nat × Ob)} {a : Act} {w w' : World} (hS : Sim C ρ U t h a w) (e1 : w'.heap = w.heap) (e2 : w'.os = w.os)
    (e3 : w'.tape = w.tape) (e4 : w'.output = w.output) : Sim C ρ U t h a w' := by
  obtain ⟨h1, h2⟩ := hS.hr.world e1 e2 e3 e4
  refine ⟨h1, fun k x hk => ?_, hS.defers, hS.sz⟩
  obtain ⟨u, hu, hv⟩ := hS.tm k x hk
  exact ⟨u, hu, h2 _ _ hv⟩

theorem wpDraw_sound (hm : P.follows .mixedOrders = true) (hs : stripOps P ops true ops.toList = some sl) (hdst : okDst C.nt sl = true) {ρ : Nat → Loc} {U : Nat → Prop} {a : Act} {w : World}
    (hS : Sim C ρ U t0 h0 a w) (hU : ∀ b, U b → b < n) {Q : List (Nat × AV) → List (Nat × Ob) → Prop} (hw : wpDraw P n sl t0 h0 Q) {id : Nat}
    (hend : ∀ t h a' w' ρ' U', Sim C ρ' U' t h a' w' → (∀ b, U' b → b < n + 8 * sl.length) → Q t h → K .normal a' w') : (Code.region id ops true).wp P K a w := by
  obtain ⟨rs, hlen, ⟨hok, hQ⟩, hst⟩ := wpDrawL_spec sl n [] t0 h0 _ hw
  simp only [List.append_nil, List.reverse_reverse] at hok
  have hl := (stripOps_get ops.toList sl hs).1
  simp only [Array.length_toList] at hl
  have hD0 : ofL (Array.replicate ops.size false) = fun _ => false := by
    funext i
    unfold ofL
    rcases Nat.lt_or_ge i ops.size with h | h <;> simp [h]
  refine wp_region_any hm (wpAny_inv (n := n) (t0 := t0) (h0 := h0) hs hdst hlen hok hst ?_ ops.size _ a _ (by simp) ?_ ?_ ?_)
  · intro D a' w' hD hI
    obtain ⟨ρ', U', hS', hU'⟩ := hI
    have hz : ∀ i (x : SOper × Rec), (sl.zip rs)[i]? = some x → D i = true := fun i x hx => hD i (by
      rw [List.getElem?_zip_eq_some] at hx
      have := (List.getElem?_eq_some_iff.1 hx.1).1
      omega)
    refine hend _ _ a' w' ρ' U' (hS'.ext (fun k => ?_) (fun b => ?_)) (fun b hb => ?_) hQ
    · exact foldG_read _ _ _ _ _ k rfl fun i x hx _ => (hz i x hx).symm
    · exact foldG_read _ _ _ _ _ b rfl fun i x hx _ => (hz i x hx).symm
    · rcases hU' b hb with h | ⟨i, hi, h⟩
      · omega
      · omega
  · rw [hD0]; intro i o hi; cases hi
  · exact Nat.le_trans List.countP_le_length (by simp)
  · rw [hD0]
    exact ⟨ρ, U, by rw [foldG_none, foldG_none]; exact hS.world rfl rfl rfl rfl, fun b hb => .inl (hU b hb)⟩
end draw
end Go.Eng
