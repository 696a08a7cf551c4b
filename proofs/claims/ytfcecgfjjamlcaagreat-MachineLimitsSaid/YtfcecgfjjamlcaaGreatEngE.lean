/-
  The engine, joined part E: an abstract interpreter over the kit's calls, and its soundness.
  No condition beyond those that each theorem states.
-/
import Derived.Below
import Derived.DataReads
import Derived.Test.YtfcecgfjjamlcaaGreatEngD
set_option linter.all false
namespace Go.Eng
open Go Go.RowKit
def Arg (w : World) (x : AV) (u : Value) : Prop := VP w (fun g => g < w.heap.size) x u
theorem Fn.said {P : Program} {f : FuncId} {xs : List AV} {v : Value} (hF : Fn P f xs [] (.v v) [] []) (w : World) (vals : Array Value) (hl : xs.length = vals.size)
    (hv : ∀ (i : Nat) (x : AV) (u : Value), xs[i]? = some x → vals[i]? = some u → Arg w x u) : Calls P f vals w fun e w' => e = .returned v ∧ Below w.heap.size w w' := by
  let C : Ctx := ⟨w, fun g => g < w.heap.size, fun _ => False, fun _ => none, 0, fun _ h => h.elim, (fun _ _ h => by cases h), (fun _ => False), fun _ h => h.elim⟩
  have hno : ∀ g, ¬ Owned (fun _ : Nat => Loc.dead) g := fun g ⟨b, o, n, h⟩ => by cases h
  have hr : HR C (fun _ => .dead) (fun _ => False) (boxesFrom 0 []) w := by
    refine ⟨fun b o h => ?_, fun _ _ => rfl, fun b b' g o n o' n' h => ?_, rfl, rfl, rfl, Nat.le_refl _, fun _ _ _ _ => rfl, fun g h => ⟨h, (fun h => h), fun h => h⟩, fun g h => (hno g h).elim, fun b l h => ?_⟩
    · cases h
    · cases h
    · cases h
  refine (hF.2 C (fun _ => .dead) (fun _ => False) w vals hr (fun b h => h.elim) ⟨hl, fun i x u h1 h2 => .p ((hv i x u h1 h2).mono (fun g hg => ⟨.inl hg, hg, hno g⟩) (fun _ _ => rfl))⟩).mono fun e w' h => ?_
  obtain ⟨v', ρ', U', rfl, h1, h2⟩ := h
  obtain rfl := h2.v_inv
  refine ⟨rfl, h1.os, h1.tape, h1.output, h1.size, fun k hk => h1.old k hk (fun h => h) fun h => h⟩
end Go.Eng

namespace Go.Eng
open Go
def stay (h : List (Nat × Ob)) (Z : List Nat) : List (Nat × Nat) := ((h.map Prod.fst).filter fun k => !Z.contains k).map fun k => (k, k)
def kills (Z : List Nat) : List (Nat × Ob) := Z.map fun k => (k, Ob.dead)
theorem get_stay (h : List (Nat × Ob)) (Z : List Nat) (k : Nat) : get (stay h Z) k = if k ∈ h.map Prod.fst ∧ k ∉ Z then some k else none := by
  unfold stay
  induction h with
  | nil => simp [get]
  | cons p h ih =>
    obtain ⟨j, o⟩ := p
    simp only [List.map_cons]
    by_cases hj : j ∈ Z
    · rw [List.filter_cons_of_neg (by simp [hj]), ih]
      by_cases e : j = k
      · subst e; simp [hj]
      · simp only [List.mem_cons, show ¬ k = j from fun h => e h.symm, false_or]
    · rw [List.filter_cons_of_pos (by simp [hj]), List.map_cons]
      by_cases e : j = k
      · subst e; simp [get, hj]
      · rw [get_ne _ _ _ _ e, ih]
        simp only [List.mem_cons, show ¬ k = j from fun h => e h.symm, false_or]
section
variable {C : Ctx} {ρ : Nat → Loc} {U : Nat → Prop} {h : List (Nat × Ob)} {w : World}
def killLoc (ρ : Nat → Loc) (Z : List Nat) (k : Nat) : Loc := if k ∈ Z then .dead else ρ k
theorem HR.kills (hr : HR C ρ U h w) : ∀ (Z : List Nat), (∀ b ∈ Z, ∃ e sz xs, get h b = some (.row e sz xs)) → ∃ U', (∀ k, U' k → U k) ∧ (∀ k, U k → U' k) ∧ HR C (killLoc ρ Z) U' (kills Z ++ h) w
  | [], _ => ⟨U, fun _ h => h, fun _ h => h, by
      have : killLoc ρ [] = ρ := by funext k; simp [killLoc]
      rw [this]; exact hr⟩
  | b :: Z, hz => by
    obtain ⟨U', h1, h2, h3⟩ := HR.kills hr Z fun b hb => hz b (List.mem_cons_of_mem _ hb)
    obtain ⟨e, sz, xs, hb⟩ := hz b (List.mem_cons_self ..)
    have hub : U b := (hr.hp b _ hb).1
    have hnb : ∀ cs, get (Go.Eng.kills Z ++ h) b ≠ some (.box cs) := by
      intro cs hg
      rw [get_append] at hg
      cases hk : get (Go.Eng.kills Z) b with
      | none => rw [hk] at hg; simp only at hg; rw [hb] at hg; cases hg
      | some o =>
        rw [hk] at hg
        simp only [Option.some.injEq] at hg
        subst hg
        have := get_mem hk
        simp [Go.Eng.kills] at this
    have hm : Moved C (killLoc ρ Z) U' (Go.Eng.kills Z ++ h) w b .dead w := ⟨rfl, rfl, rfl, Nat.le_refl _, fun _ _ _ => rfl, .inr (.inl ⟨h2 _ hub, rfl, hnb⟩)⟩
    have := hm.hr h3 (ob := .dead) (fun ⟨cs, hc⟩ => (hnb cs hc).elim) rfl
    refine ⟨addU U' b, fun k hk => ?_, fun k hk => .inl (h2 k hk), ?_⟩
    · rcases hk with hk | rfl
      · exact h1 k hk
      · exact hub
    · have e : killLoc ρ (b :: Z) = up (killLoc ρ Z) b .dead := by
        funext k
        simp only [killLoc, up, List.mem_cons]
        by_cases e : k = b
        · simp [e]
        · simp [e]
      rw [e]; exact this
theorem wpCall_fz {P : Program} {nm : Nat} {f : FuncId} {args args' : List AV} {Q : AV → List (Nat × Ob) → Prop} (Z : List Nat)
    (hz : ∀ b ∈ Z, ∃ e sz xs, get h b = some (.row e sz xs)) (ha : rvL h (stay h Z) [] args' args) (hk : wpCall P nm f args' (kills Z ++ h) Q) : wpCall P nm f args h Q := by
  refine ⟨hk.1, fun C ρ U w vals hr hU hv => ?_⟩
  obtain ⟨U', hU1, hU2, hr'⟩ := hr.kills Z hz
  have hloc : newLoc ρ (stay h Z) [] = killLoc ρ Z := by
    funext k
    simp only [newLoc, get_stay, killLoc]
    by_cases hkz : k ∈ Z
    · simp [hkz]
    · by_cases hkh : k ∈ h.map Prod.fst
      · rw [if_pos ⟨hkh, hkz⟩, if_neg hkz]
      · rw [if_neg (fun h => hkh h.1), if_neg hkz]
        have : get h k = none := by
          cases hg : get h k with
          | none => rfl
          | some o => exact absurd (List.mem_map.2 ⟨_, get_mem hg, rfl⟩) hkh
        rw [hr.hd k this]; simp
  have hnu : ∀ k, newU (stay h Z) [] k → U' k := by
    intro k hk
    rcases hk with hk | hk
    · obtain ⟨c, hc⟩ := get_keys hk
      rw [get_stay] at hc
      split at hc
      · rename_i h1
        obtain ⟨o, ho⟩ := get_keys h1.1
        exact hU2 k (hr.hp k o ho).1
      · cases hc
    · simp at hk
  have hlater : Later U ρ (killLoc ρ Z) := fun b _ => by
    unfold killLoc
    by_cases e : b ∈ Z
    · rw [if_pos e]; exact .inr rfl
    · rw [if_neg e]; exact .inl rfl
  have hokc : ∀ g, okc C ρ w g → okc C (killLoc ρ Z) w g := fun g hg => ⟨hg.1, hg.2.1, fun ⟨b, o, n, hb⟩ => by
    unfold killLoc at hb
    split at hb
    · cases hb
    · exact hg.2.2 ⟨b, o, n, hb⟩⟩
  have hl := rvL_len _ _ ha
  have hv' : VL w (okc C (killLoc ρ Z) w) (killLoc ρ Z) U' args' vals := by
    refine ⟨by rw [hl]; exact hv.1, fun i x u hi hu => ?_⟩
    obtain ⟨y, hy, hxy⟩ := rvL_get _ _ ha i x hi
    have := rv_vr hr (hv.2 i y u hy hu) x hxy
    rw [hloc] at this
    exact this.mono (fun _ h => h) (fun _ _ => rfl) hnu (fun _ _ => .inl rfl)
  refine (hk.2 C (killLoc ρ Z) U' w vals hr' (fun b hb => hU b (hU1 b hb)) hv').mono fun e w' hpost => ?_
  obtain ⟨v, r, h', ρ', U'', rfl, h1, h2, h3, h4, h5⟩ := hpost
  exact ⟨v, r, h', ρ', U'', rfl, h1, h2, fun x u hx => h3 x u (hx.mono hokc (fun _ _ => rfl) hU2 hlater), fun b hb => (h4 b hb).imp (hU1 b) id, h5⟩
end
end Go.Eng

namespace Go.Eng
open Go
theorem Arg.val (w : World) (u : Value) : Arg w (.v u) u := .v u
theorem Arg.nil (w : World) (sz : Nat) : Arg w (.sl sz []) (.slice none 0 0) := .nilsl
end Go.Eng

namespace Go.Eng
open Go
theorem VR.rn {w w' : World} {ok ok' : Nat → Prop} {ρ ρ' : Nat → Loc} {U U' : Nat → Prop} {S : List (Nat × Nat)} (hS : ∀ k b, get S k = some b → U' k ∧ ρ' k = ρ b) (hok : ∀ g, ok g → ok' g)
    (hw : ∀ g, ok g → w'.heap[g]? = w.heap[g]?) {y : AV} {u : Value} (h : VR w ok ρ U y u) : ∀ x, rv [] S [] x y → VR w' ok' ρ' U' x u := by
  have kp : ∀ {y : AV} {u : Value}, VP w ok y u → ∀ x, rv [] S [] x y → VR w' ok' ρ' U' x u := fun h => by
    induction h with
    | v a =>
      intro x hx
      cases x with
      | v b => simp only [rv] at hx; cases hx; exact .p (.v _)
      | sl sz ys =>
        unfold rv at hx
        split at hx
        · rename_i e; cases e
        · rename_i e; cases e; subst hx; exact .p .nilsl
        · rename_i e; cases e
        · exact hx.elim
      | own k sz off len =>
        unfold rv at hx
        split at hx
        · rename_i e; cases e
        · simp at hx
        · exact hx.elim
      | _ => simp only [rv] at hx
    | agg hl hc ih =>
      intro x hx
      cases x <;> simp only [rv] at hx <;> try (cases hx; done)
      have h1 := rvL_len _ _ hx
      refine .agg (by omega) fun i c u hi hu => ?_
      obtain ⟨z, h2, h3⟩ := rvL_get _ _ hx i c hi
      exact ih i z u h2 hu c h3
    | tup hl hc ih =>
      intro x hx
      cases x <;> simp only [rv] at hx <;> try (cases hx; done)
      have h1 := rvL_len _ _ hx
      refine .tup (by omega) fun i c u hi hu => ?_
      obtain ⟨z, h2, h3⟩ := rvL_get _ _ hx i c hi
      exact ih i z u h2 hu c h3
    | fn hf hl hc ih =>
      intro x hx
      cases x <;> simp only [rv] at hx <;> try (cases hx; done)
      obtain ⟨rfl, hx⟩ := hx
      have h1 := rvL_len _ _ hx
      refine .fn hf (by omega) fun i c u hi hu => ?_
      obtain ⟨z, h2, h3⟩ := rvL_get _ _ hx i c hi
      exact ih i z u h2 hu c h3
    | slc h hc ih =>
      intro x hx
      cases x <;> simp only [rv] at hx <;> try (cases hx; done)
      obtain ⟨rfl, hx⟩ := hx
      rename_i ys
      match ys, hx with
      | [y], hx =>
        simp only [rvL, and_true] at hx
        have h2 := ih y hx
        cases y <;> simp only [rv] at hx <;> try (cases hx; done)
        obtain ⟨rfl, rfl⟩ := hx
        exact .p (.slc h2.sl_inv hc)
      | [], hx => simp only [rvL] at hx
      | _ :: _ :: _, hx => simp only [rvL, and_false] at hx
    | nilsl =>
      intro x hx
      cases x <;> simp only [rv] at hx <;> try (cases hx; done)
      obtain ⟨rfl, rfl⟩ := hx
      exact .p .nilsl
    | sl a n cap f hn hcap hk hl hc hv ih =>
      intro x hx
      cases x <;> simp only [rv] at hx <;> try (cases hx; done)
      obtain ⟨rfl, rfl⟩ := hx
      exact .p ((VP.sl a n cap f hn hcap hk hl hc hv).mono hok hw)
    | pel g o f hk hc hv ih =>
      intro x hx
      cases x <;> simp only [rv] at hx <;> try (cases hx; done)
      obtain ⟨rfl, rfl⟩ := hx
      exact .p ((VP.pel g o f hk hc hv).mono hok hw)
  induction h with
  | p h => exact kp h
  | agg hl hc ih =>
    intro x hx
    cases x <;> simp only [rv] at hx <;> try (cases hx; done)
    have h1 := rvL_len _ _ hx
    refine .agg (by omega) fun i c u hi hu => ?_
    obtain ⟨z, h2, h3⟩ := rvL_get _ _ hx i c hi
    exact ih i z u h2 hu c h3
  | tup hl hc ih =>
    intro x hx
    cases x <;> simp only [rv] at hx <;> try (cases hx; done)
    have h1 := rvL_len _ _ hx
    refine .tup (by omega) fun i c u hi hu => ?_
    obtain ⟨z, h2, h3⟩ := rvL_get _ _ hx i c hi
    exact ih i z u h2 hu c h3
  | fn hf hl hc ih =>
    intro x hx
    cases x <;> simp only [rv] at hx <;> try (cases hx; done)
    obtain ⟨rfl, hx⟩ := hx
    have h1 := rvL_len _ _ hx
    refine .fn hf (by omega) fun i c u hi hu => ?_
    obtain ⟨z, h2, h3⟩ := rvL_get _ _ hx i c hi
    exact ih i z u h2 hu c h3
  | own hu ho =>
    intro x hx
    cases x with
    | own k sz' off' len' =>
      simp only [rv] at hx
      obtain ⟨h1, rfl, rfl, rfl⟩ := hx
      obtain ⟨h2, h3⟩ := hS _ _ h1
      exact .own h2 (by rw [h3]; exact ho)
    | sl sz' ys => simp [rv, get] at hx
    | pel cs j => simp [rv] at hx
    | _ => simp only [rv] at hx <;> cases hx
  | ptr a hu ha =>
    intro x hx
    cases x with
    | ptr k j =>
      simp only [rv] at hx
      obtain ⟨h1, rfl⟩ := hx
      obtain ⟨h2, h3⟩ := hS _ _ h1
      exact .ptr a h2 (by rw [h3]; exact ha)
    | _ => simp only [rv] at hx <;> cases hx
  | rp a hu ha =>
    intro x hx
    cases x with
    | rp k sz i j =>
      simp only [rv] at hx
      obtain ⟨h1, rfl, rfl, rfl⟩ := hx
      obtain ⟨h2, h3⟩ := hS _ _ h1
      exact .rp a h2 (by rw [h3]; exact ha)
    | pel cs j => simp [rv, get] at hx
    | _ => simp only [rv] at hx <;> cases hx
  | mp a hu ha =>
    intro x hx
    cases x with
    | mp k =>
      simp only [rv] at hx
      obtain ⟨h2, h3⟩ := hS _ _ hx
      exact .mp a h2 (by rw [h3]; exact ha)
    | _ => simp only [rv] at hx <;> cases hx
theorem ObR.rn {w w' : World} {ok ok' : Nat → Prop} {ρ ρ' : Nat → Loc} {U U' : Nat → Prop} {S : List (Nat × Nat)} (hS : ∀ k b, get S k = some b → U' k ∧ ρ' k = ρ b) (hok : ∀ g, ok g → ok' g)
    (hw : ∀ g, ok g → w'.heap[g]? = w.heap[g]?) {l : Loc} (hl : ∀ g o n, l = .at g o n → w'.heap[g]? = w.heap[g]?) {x y : Ob} (h : ObR w ok ρ U l y) (hx : rvO [] S [] x y) : ObR w' ok' ρ' U' l x := by
  cases y with
  | box cs =>
    cases x with
    | box ds =>
      simp only [rvO] at hx
      obtain ⟨g, o, n, e, cells, h1, h2, h3, h4, h5⟩ := h
      have h6 := rvL_len _ _ hx
      refine ⟨g, o, n, e, cells, h1, (hl g o n h1).trans h2, h3, by omega, fun j c hj => ?_⟩
      obtain ⟨z, h7, h8⟩ := rvL_get _ _ hx j c hj
      obtain ⟨u, hu, hv⟩ := h5 j z h7
      exact ⟨u, hu, hv.rn hS hok hw c h8⟩
    | _ => simp only [rvO] at hx
  | row e sz xs =>
    cases x with
    | row e' sz' ys =>
      simp only [rvO] at hx
      obtain ⟨rfl, rfl, rfl⟩ := hx
      rcases h with h | ⟨g, o, n, cells, h1, h2, h3, h4, h5, h6⟩
      · exact .inl h
      · refine .inr ⟨g, o, n, cells, h1, (hl g o n h1).trans h2, h3, h4, h5, fun k x j c hk hj => ?_⟩
        obtain ⟨u, hu, h1c, hv⟩ := h6 k x j c hk hj
        exact ⟨u, hu, h1c, hv.mono hok hw⟩
    | _ => simp only [rvO] at hx
  | map es =>
    cases x with
    | map es' =>
      simp only [rvO] at hx
      obtain ⟨g, ents, clock, h1, h2, h3, h4⟩ := h
      obtain ⟨hl', hgM⟩ := rvM_get _ _ hx
      refine ⟨g, ents, clock, h1, (hl g 0 0 h1).trans h2, by omega, fun i k c m hi he => ?_⟩
      obtain ⟨z, h7, h8⟩ := hgM i k c hi
      exact ⟨(h4 i k z m h7 he).1, (h4 i k z m h7 he).2.rn hS hok hw c h8⟩
    | _ => simp only [rvO] at hx
  | dead => cases x <;> simp only [rvO] at hx
def FnG (P : Program) (f : FuncId) (xs : List AV) (bs : List (List AV)) (gs : List Ob) (r : AV) (bs' : List (List AV)) (es : List Ob) : Prop :=
  Enters P f ∧ ∀ (C : Ctx) (ρ : Nat → Loc) (U : Nat → Prop) (w : World) (vals : Array Value), HR C ρ U (outs bs gs) w → (∀ b, U b → b < 8) → VL w (okc C ρ w) ρ U xs vals →
    Calls P f vals w fun e w' => ∃ v ρ' U', e = .returned v ∧ HR C ρ' U' (outs bs' es) w' ∧ VR w' (okc C ρ' w') ρ' U' r v
theorem FnG.of_go {P : Program} {f : FuncId} {sc : SCode} {res : List SRes} {nt : Nat} (hok : FnOk P f sc res nt) {xs : List AV} {bs : List (List AV)} {gs : List Ob} {r : AV} {bs' : List (List AV)} {es : List Ob}
    (hn : xs.length ≤ nt) (hgo : go P [.code sc] (finQ res r bs' es) 8 (tFrom 0 xs) (outs bs gs)) : FnG P f xs bs gs r bs' es := by
  obtain ⟨⟨fn, c, hf, hnm, hb, hs, hres, hr4, rfl⟩, hoc, hm⟩ := hok
  refine ⟨⟨fn, hf, hnm, by rw [hb]; rfl⟩, fun C ρ U w vals hr hU hv => ?_⟩
  let C1 : Ctx := { C with nt := fn.ntmps }
  have hr1 : HR C1 ρ U (outs bs gs) w := ⟨hr.hp, hr.hd, hr.inj, hr.os, hr.tape, hr.output, hr.size, hr.old, hr.okl, hr.ownl, hr.fix⟩
  refine calls_of_wp hf hb (wpc_sound (C := C1) hm c sc hs hoc _ _ ⟨8, tFrom 0 xs, outs bs gs⟩ _ w ⟨ρ, U, ⟨hr1, fun k x hk => ?_, rfl, ?_⟩, fun b hb => hU b hb⟩ hgo fun e s a w' hA hQ => ?_)
  · rw [get_tFrom] at hk
    simp only [Nat.zero_le, if_true, Nat.sub_zero] at hk
    have hlt : k < vals.size := by rw [← hv.1]; exact (List.getElem?_eq_some_iff.1 hk).1
    refine ⟨vals[k], ?_, hv.2 k x _ hk (Array.getElem?_eq_getElem hlt)⟩
    simp [Array.getElem?_append, hlt]
  · have := hv.1
    simp only [Array.size_append, Array.size_replicate]
    show _ = fn.ntmps
    omega
  · have fin : Fin res r bs' es s.t s.h → a.defers = [] ∧ ∃ v, (results fn a.tmps).run P w' = .ok v w' ∧ ∃ v_1 ρ' U', Ending.returned v = Ending.returned v_1 ∧ HR C ρ' U' (outs bs' es) w' ∧ VR w' (okc C ρ' w') ρ' U' r v_1 := fun hF => by
      obtain ⟨S, N, ys, h1, h2, h3, h4, h5⟩ := hF
      obtain ⟨ρ1, U1, hS, _⟩ := hA
      obtain ⟨vs, h6, h7, h8, h9⟩ := retV_ok (P := P) hS.hr hS.tm fn.results.toList res ys hres h1
      refine ⟨hS.defers, _, results_eq a.tmps w' rfl h6 hr4 h8, _, newLoc ρ1 S N, newU S N, rfl, ?_, ?_⟩
      · have := rv_hr hS.hr h2 h3 h4
        exact ⟨this.hp, this.hd, this.inj, this.os, this.tape, this.output, this.size, this.old, this.okl, this.ownl, this.fix⟩
      · exact rv_vr hS.hr (retOne_ok (by omega) h9) r h5
    cases e with
    | normal => exact fin hQ
    | ret => exact fin hQ
    | exit i => exact hQ.elim
    | goto l => exact hQ.elim
    | panic ch => exact hQ.elim
    | outgrown => exact hQ.elim
end Go.Eng

namespace Go.Eng
open Go
def inS (B G : List Nat) : List (Nat × Nat) := (List.range B.length).map (fun i => (i, B[i]?.getD 0)) ++ (List.range G.length).map (fun i => (4 + i, G[i]?.getD 0))
def outS (B : List Nat) (nm m : Nat) : List (Nat × Nat) := (List.range B.length).map (fun i => (B[i]?.getD 0, i)) ++ (List.range m).map (fun i => (nm + i, 4 + i))
theorem get_of_mem {α : Type} {l : List (Nat × α)} {k : Nat} {x : α} (hm : (k, x) ∈ l) (hn : (l.map Prod.fst).Nodup) : get l k = some x := by
  induction l with
  | nil => simp at hm
  | cons p l ih =>
    obtain ⟨j, y⟩ := p
    simp only [List.map_cons, List.nodup_cons] at hn
    simp only [List.mem_cons, Prod.mk.injEq] at hm
    rcases hm with ⟨rfl, rfl⟩ | hm
    · simp [get]
    · rw [get_ne]
      · exact ih hm hn.2
      · intro e; subst e; exact hn.1 (List.mem_map.2 ⟨_, hm, rfl⟩)
theorem inS_get {B G : List Nat} {k b : Nat} (h : get (inS B G) k = some b) : (B[k]? = some b) ∨ (4 ≤ k ∧ G[k - 4]? = some b) := by
  have := get_mem h
  simp only [inS, List.mem_append, List.mem_map, List.mem_range, Prod.mk.injEq] at this
  rcases this with ⟨i, hi, rfl, rfl⟩ | ⟨i, hi, rfl, rfl⟩
  · left; simp [hi]
  · right; refine ⟨by omega, ?_⟩; simp [hi]
theorem inS_box {B G : List Nat} {k b : Nat} (h : B[k]? = some b) (h4 : B.length ≤ 4) : get (inS B G) k = some b := by
  have hk := (List.getElem?_eq_some_iff.1 h).1
  refine get_of_mem (List.mem_append_left _ (List.mem_map.2 ⟨k, List.mem_range.2 hk, by simp [h]⟩)) ?_
  simp only [inS, List.map_append, List.map_map]
  rw [List.nodup_append]
  refine ⟨?_, ?_, ?_⟩
  · have : ((fun x : Nat × Nat => x.1) ∘ fun i => (i, B[i]?.getD 0)) = id := rfl
    show (List.map ((fun x : Nat × Nat => x.1) ∘ fun i => (i, B[i]?.getD 0)) _).Nodup
    rw [this, List.map_id]; exact List.nodup_range
  · unfold List.Nodup
    rw [List.pairwise_map]
    exact List.Pairwise.imp (fun h e => h (by simp only [Function.comp] at e; omega)) List.nodup_range
  · intro a ha b hb
    simp only [List.mem_map, List.mem_range, Function.comp] at ha hb
    obtain ⟨i, hi, rfl⟩ := ha
    obtain ⟨j, hj, rfl⟩ := hb
    omega
theorem inS_row {B G : List Nat} {i b : Nat} (h : G[i]? = some b) (h4 : B.length ≤ 4) : get (inS B G) (4 + i) = some b := by
  have hk := (List.getElem?_eq_some_iff.1 h).1
  refine get_of_mem (List.mem_append_right _ (List.mem_map.2 ⟨i, List.mem_range.2 hk, by simp [h]⟩)) ?_
  simp only [inS, List.map_append, List.map_map]
  rw [List.nodup_append]
  refine ⟨?_, ?_, ?_⟩
  · have : ((fun x : Nat × Nat => x.1) ∘ fun i => (i, B[i]?.getD 0)) = id := rfl
    show (List.map ((fun x : Nat × Nat => x.1) ∘ fun i => (i, B[i]?.getD 0)) _).Nodup
    rw [this, List.map_id]; exact List.nodup_range
  · unfold List.Nodup
    rw [List.pairwise_map]
    exact List.Pairwise.imp (fun h e => h (by simp only [Function.comp] at e; omega)) List.nodup_range
  · intro a ha b hb
    simp only [List.mem_map, List.mem_range, Function.comp] at ha hb
    obtain ⟨i, hi, rfl⟩ := ha
    obtain ⟨j, hj, rfl⟩ := hb
    omega
theorem outS_get {B : List Nat} {nm m k i : Nat} (h : get (outS B nm m) k = some i) : (B[i]? = some k) ∨ (nm ≤ k ∧ k < nm + m ∧ i = 4 + (k - nm)) := by
  have := get_mem h
  simp only [outS, List.mem_append, List.mem_map, List.mem_range, Prod.mk.injEq] at this
  rcases this with ⟨j, hj, rfl, rfl⟩ | ⟨j, hj, rfl, rfl⟩
  · left; simp [hj]
  · right; omega
section
variable {P : Program} {f : FuncId} {xs ys : List AV} {bs bs' cs' : List (List AV)} {gs es es' : List Ob} {r r' : AV} {h : List (Nat × Ob)} {B G : List Nat} {nm : Nat} {Q : AV → List (Nat × Ob) → Prop}
def isRow : Ob → Bool
  | .row _ _ _ => true
  | _ => false
theorem get_kills : ∀ (Z : List Nat) (k : Nat), get (kills Z) k = if k ∈ Z then some .dead else none
  | [], k => by simp [kills, get]
  | z :: Z, k => by
    have ih := get_kills Z k
    simp only [kills, List.map_cons, get] at ih ⊢
    by_cases e : z = k
    · subst e; simp
    · rw [if_neg e, ih]
      have : (k ∈ z :: Z) = (k ∈ Z) := by simp only [List.mem_cons, eq_iff_iff]; exact ⟨fun h => h.resolve_left fun h => e h.symm, .inr⟩
      simp only [this]
theorem FnG.call (hF : FnG P f xs bs gs r bs' es) (ha : rvL [] (inS B G) [] xs ys)
    (hbl : bs.length = B.length) (hgl : gs.length = G.length) (hB4 : B.length ≤ 4) (hG4 : G.length ≤ 4) (hnd : (B ++ G).Nodup)
    (hb : ∀ (i b : Nat), B[i]? = some b → ∃ cs cs0, bs[i]? = some cs ∧ get h b = some (.box cs0) ∧ rvL [] (inS B G) [] cs cs0)
    (hg : ∀ (i b : Nat), G[i]? = some b → ∃ o, gs[i]? = some o ∧ get h b = some o ∧ isRow o = true)
    (hbl' : bs'.length = B.length) (hcl' : cs'.length = B.length) (hb' : ∀ (i : Nat) (c : List AV), cs'[i]? = some c → ∃ x, bs'[i]? = some x ∧ rvL [] (outS B nm es.length) [] c x)
    (hel : es'.length = es.length) (hm : es.length ≤ 8) (he : ∀ (i : Nat) (y : Ob), es'[i]? = some y → ∃ x, es[i]? = some x ∧ rvO [] (outS B nm es.length) [] y x)
    (hr' : rv [] (outS B nm es.length) [] r' r) (hQ : Q r' (obsFrom nm es' ++ (boxesAt B cs' ++ (kills G ++ h)))) : wpCall P nm f ys h Q := by
  refine ⟨hF.1, fun C ρ U w vals hr hfr hvl => ?_⟩
  rw [List.nodup_append] at hnd
  obtain ⟨hndB, hndG, hdis⟩ := hnd
  have hBG : ∀ b, b ∈ B → b ∈ G → False := fun b h1 h2 => hdis b h1 b h2 rfl
  have hbU : ∀ b ∈ B, U b ∧ ∃ cs0, get h b = some (.box cs0) := fun b hbB => by
    obtain ⟨i, hi⟩ := List.mem_iff_getElem?.1 hbB
    obtain ⟨cs, cs0, _, h2, _⟩ := hb i b hi
    exact ⟨(hr.hp b _ h2).1, cs0, h2⟩
  have hgU : ∀ b ∈ G, U b ∧ ∃ o, get h b = some o ∧ isRow o = true := fun b hbG => by
    obtain ⟨i, hi⟩ := List.mem_iff_getElem?.1 hbG
    obtain ⟨o, _, h2, h3⟩ := hg i b hi
    exact ⟨(hr.hp b _ h2).1, o, h2, h3⟩
  let C' : Ctx := ⟨w, okc C ρ w, (fun g => ∃ b ∈ B, ∃ o n, ρ b = Loc.at g o n), (fun i => (B[i]?).map ρ), 0, (fun g hg => by
      obtain ⟨b, hbB, o, n, hl⟩ := hg
      obtain ⟨i, hi⟩ := List.mem_iff_getElem?.1 hbB
      exact ⟨i, o, n, by simp [hi, hl]⟩), (fun i l hl => by
      rcases Nat.lt_or_ge i B.length with h1 | h1
      · omega
      · simp [List.getElem?_eq_none h1] at hl), (fun g => ∃ b ∈ G, ∃ o n, ρ b = Loc.at g o n), (fun g ⟨b, hbG, o, n, hl⟩ ⟨b', hbB, o', n', hl'⟩ => by
      have := hr.inj b b' g o n o' n' hl hl'
      subst this
      exact hBG b hbB hbG)⟩
  -- the callee's names
  let ρc : Nat → Loc := fun k => match get (inS B G) k with | some b => ρ b | none => .dead
  let Uc : Nat → Prop := fun k => ∃ b, get (inS B G) k = some b
  have hρc : ∀ k b, get (inS B G) k = some b → ρc k = ρ b := fun k b hk => by show (match get (inS B G) k with | some b => ρ b | none => .dead) = ρ b; rw [hk]
  have hcase0 : ∀ k g o n, ρc k = .at g o n → ∃ b, get (inS B G) k = some b ∧ ρ b = .at g o n := fun k g o n hk => by
    cases hs : get (inS B G) k with
    | none =>
      have : ρc k = .dead := by show (match get (inS B G) k with | some b => ρ b | none => .dead) = _; rw [hs]
      rw [this] at hk; cases hk
    | some b => exact ⟨b, rfl, by rw [← hρc k b hs]; exact hk⟩
  have hown0 : ∀ g, Owned ρc g → Owned ρ g := fun g ⟨k, o, n, hk⟩ => by
    obtain ⟨b, _, hb⟩ := hcase0 k g o n hk
    exact ⟨b, o, n, hb⟩
  have hok : ∀ g, okc C ρ w g → okc C' ρc w g := fun g hg => ⟨.inl hg, hg.2.1, fun ho => hg.2.2 (hown0 g ho)⟩
  have hSi : ∀ k b, get (inS B G) k = some b → Uc k ∧ ρc k = ρ b := fun k b hk => ⟨⟨b, hk⟩, hρc k b hk⟩
  have hUc8 : ∀ k, Uc k → k < 8 := fun k ⟨b, hk⟩ => by
    rcases inS_get hk with h1 | ⟨h1, h2⟩
    · have := (List.getElem?_eq_some_iff.1 h1).1; omega
    · have := (List.getElem?_eq_some_iff.1 h2).1; omega
  have hnmG : ∀ k, k ∈ G → ¬ (nm ≤ k ∧ k < nm + 8) := fun k hk => hfr k (hgU k hk).1
  have hr0 : HR C' ρc Uc (outs bs gs) w := by
    refine ⟨fun k o hk => ?_, fun k hk => ?_, fun k k' g o n o' n' h1 h2 => ?_, rfl, rfl, rfl, Nat.le_refl _, fun g _ _ _ => rfl,
      fun g hg => ⟨hg.2.1, fun ⟨b, _, o, n, hb⟩ => hg.2.2 ⟨b, o, n, hb⟩, fun ⟨b, _, o, n, hb⟩ => hg.2.2 ⟨b, o, n, hb⟩⟩, fun g ho => ?_, fun i l hi => ?_⟩
    · unfold outs at hk
      rw [get_append, boxesFrom, get_obsFrom] at hk
      simp only [Nat.zero_le, if_true, Nat.sub_zero, List.getElem?_map] at hk
      cases hbk : bs[k]? with
      | some cs =>
        rw [hbk] at hk
        simp only [Option.map_some, Option.some.injEq] at hk
        subst hk
        have hlt : k < B.length := by rw [← hbl]; exact (List.getElem?_eq_some_iff.1 hbk).1
        have hib : B[k]? = some B[k] := List.getElem?_eq_getElem hlt
        obtain ⟨cs1, cs0, h1, h2, h3⟩ := hb k _ hib
        rw [hbk] at h1; cases h1
        have hs := inS_box (G := G) hib hB4
        refine ⟨⟨_, hs⟩, ?_⟩
        rw [hρc k _ hs]
        exact (hr.hp _ _ h2).2.rn hSi hok (fun _ _ => rfl) (fun _ _ _ _ => rfl) (by simp only [rvO]; exact h3)
      | none =>
        rw [hbk] at hk
        simp only [Option.map_none] at hk
        rw [get_obsFrom] at hk
        split at hk
        · rename_i h4
          have hlt : k - 4 < G.length := by rw [← hgl]; exact (List.getElem?_eq_some_iff.1 hk).1
          have hib : G[k - 4]? = some G[k - 4] := List.getElem?_eq_getElem hlt
          obtain ⟨o1, h1, h2, h3⟩ := hg (k - 4) _ hib
          rw [hk] at h1; cases h1
          have hs := inS_row (B := B) hib hB4
          rw [show 4 + (k - 4) = k by omega] at hs
          refine ⟨⟨_, hs⟩, ?_⟩
          rw [hρc k _ hs]
          refine (hr.hp _ _ h2).2.rn hSi hok (fun _ _ => rfl) (fun _ _ _ _ => rfl) ?_
          cases o with
          | row e sz xs => simp only [rvO, and_self]
          | _ => simp [isRow] at h3
        · cases hk
    · cases hs : get (inS B G) k with
      | none => show (match get (inS B G) k with | some b => ρ b | none => .dead) = _; rw [hs]
      | some b =>
        unfold outs at hk
        rw [get_append, boxesFrom, get_obsFrom] at hk
        simp only [Nat.zero_le, if_true, Nat.sub_zero, List.getElem?_map] at hk
        rcases inS_get hs with h1 | ⟨h1, h2⟩
        · have hlt : k < bs.length := by rw [hbl]; exact (List.getElem?_eq_some_iff.1 h1).1
          rw [List.getElem?_eq_getElem hlt] at hk
          simp at hk
        · have hlt : k - 4 < gs.length := by rw [hgl]; exact (List.getElem?_eq_some_iff.1 h2).1
          have : bs[k]? = none := List.getElem?_eq_none (by omega)
          rw [this] at hk
          simp only [Option.map_none, get_obsFrom] at hk
          rw [if_pos h1, List.getElem?_eq_getElem hlt] at hk
          cases hk
    · obtain ⟨b, hs, hl⟩ := hcase0 k g o n h1
      obtain ⟨b', hs', hl'⟩ := hcase0 k' g o' n' h2
      have e := hr.inj b b' g o n o' n' hl hl'
      subst e
      rcases inS_get hs with h3 | ⟨h3, h4⟩ <;> rcases inS_get hs' with h5 | ⟨h5, h6⟩
      · obtain ⟨p1, q1⟩ := List.getElem?_eq_some_iff.1 h3
        obtain ⟨p2, q2⟩ := List.getElem?_eq_some_iff.1 h5
        exact (List.getElem_inj hndB).1 (q1.trans q2.symm)
      · exact (hBG b (List.mem_of_getElem? h3) (List.mem_of_getElem? h6)).elim
      · exact (hBG b (List.mem_of_getElem? h5) (List.mem_of_getElem? h4)).elim
      · obtain ⟨p1, q1⟩ := List.getElem?_eq_some_iff.1 h4
        obtain ⟨p2, q2⟩ := List.getElem?_eq_some_iff.1 h6
        have := (List.getElem_inj hndG).1 (q1.trans q2.symm)
        omega
    · obtain ⟨k, o, n, hk⟩ := ho
      obtain ⟨b, hs, hl⟩ := hcase0 k g o n hk
      refine ⟨?_, (hr.ownl g ⟨b, o, n, hl⟩).2⟩
      rcases inS_get hs with h3 | ⟨h3, h4⟩
      · exact .inl ⟨b, List.mem_of_getElem? h3, o, n, hl⟩
      · exact .inr (.inl ⟨b, List.mem_of_getElem? h4, o, n, hl⟩)
    · have hlt : i < B.length := by
        rcases Nat.lt_or_ge i B.length with h1 | h1
        · exact h1
        · simp [C', List.getElem?_eq_none h1] at hi
      have hib : B[i]? = some B[i] := List.getElem?_eq_getElem hlt
      obtain ⟨cs, cs1, h1, h2, h3⟩ := hb i _ hib
      have hs := inS_box (G := G) hib hB4
      refine ⟨?_, ⟨_, hs⟩, cs, ?_⟩
      · rw [hρc i _ hs]
        simp only [C', hib, Option.map_some, Option.some.injEq] at hi
        exact hi
      · exact get_outs_box h1
  have hvl0 : VL w (okc C' ρc w) ρc Uc xs vals := by
    have hl := rvL_len _ _ ha
    refine ⟨by rw [hl]; exact hvl.1, fun i x u hi hu => ?_⟩
    obtain ⟨y, hy, hxy⟩ := rvL_get _ _ ha i x hi
    exact (hvl.2 i y u hy hu).rn hSi hok (fun _ _ => rfl) x hxy
  refine (hF.2 C' ρc Uc w vals hr0 hUc8 hvl0).mono fun e w' hpost => ?_
  obtain ⟨v, ρ1, U1, rfl, hr1, hv1⟩ := hpost
  -- afterwards
  let ρ2 : Nat → Loc := fun k => if nm ≤ k ∧ k < nm + es.length then ρ1 (4 + (k - nm)) else if k ∈ G then .dead else ρ k
  let U2 : Nat → Prop := fun k => U k ∨ (nm ≤ k ∧ k < nm + es.length)
  have hρ2n : ∀ k, nm ≤ k ∧ k < nm + es.length → ρ2 k = ρ1 (4 + (k - nm)) := fun k hk => by show (if _ then _ else _) = _; rw [if_pos hk]
  have hρ2U : ∀ k, U k → k ∉ G → ρ2 k = ρ k := fun k hk hG => by
    show (if _ then _ else _) = _
    rw [if_neg (fun hh => hfr k hk ⟨hh.1, by omega⟩), if_neg hG]
  have hρ2G : ∀ k, k ∈ G → ρ2 k = .dead := fun k hG => by
    show (if _ then _ else _) = _
    rw [if_neg (fun hh => hnmG k hG ⟨hh.1, by omega⟩), if_pos hG]
  have hsz : w.heap.size ≤ w'.heap.size := hr1.size
  have hgivo : ∀ b ∈ G, ∀ g o n, ρ b = .at g o n → (C.ext g ∨ C.new g) → C.new g := fun b hbG g o n hl hx => by
    rcases hx with h1 | h1
    · obtain ⟨b', o', n', hb'⟩ := C.extl g h1
      obtain ⟨h3, _, cs, h4⟩ := hr.fix b' _ hb'
      have := hr.inj b b' g o n o' n' hl h3
      subst this
      obtain ⟨_, o2, h5, h6⟩ := hgU b hbG
      rw [h5] at h4; cases h4
      simp [isRow] at h6
    · exact h1
  have hoff : ∀ i g o n, i < es.length → ρ1 (4 + i) = .at g o n → ((∃ b ∈ G, ∃ o n, ρ b = .at g o n) ∨ w.heap.size ≤ g) ∧ g < w'.heap.size := fun i g o n hi hl => by
    obtain ⟨h1, h2⟩ := hr1.ownl g ⟨_, o, n, hl⟩
    refine ⟨?_, h2⟩
    rcases h1 with h1 | h1
    · obtain ⟨b, o', n', hb⟩ := C'.extl g h1
      obtain ⟨h3, _, _⟩ := hr1.fix b _ hb
      have := hr1.inj (4 + i) b g o n o' n' hl h3
      have := C'.locb b _ hb
      omega
    · exact h1
  have hold : ∀ k g o n, ρ k = .at g o n → g < w.heap.size := fun k g o n hl => (hr.ownl g ⟨k, o, n, hl⟩).2
  have hheap : ∀ g, g < w.heap.size → (∀ b ∈ B, ∀ o n, ρ b ≠ .at g o n) → (∀ b ∈ G, ∀ o n, ρ b ≠ .at g o n) → w'.heap[g]? = w.heap[g]? := fun g hg h1 h2 =>
    hr1.old g hg (fun ⟨b, hbB, o, n, hl⟩ => h1 b hbB o n hl) (fun ⟨b, hbG, o, n, hl⟩ => h2 b hbG o n hl)
  have hcase : ∀ k g o n, ρ2 k = .at g o n → (∃ i, k = nm + i ∧ i < es.length ∧ ρ1 (4 + i) = .at g o n) ∨ (k ∉ G ∧ ρ k = .at g o n) := fun k g o n hk => by
    by_cases h1 : nm ≤ k ∧ k < nm + es.length
    · rw [hρ2n k h1] at hk
      exact .inl ⟨k - nm, by omega, by omega, hk⟩
    · have hk' : (if k ∈ G then Loc.dead else ρ k) = .at g o n := by
        have : ρ2 k = (if k ∈ G then Loc.dead else ρ k) := by show (if _ then _ else _) = _; rw [if_neg h1]
        rw [← this]; exact hk
      split at hk'
      · cases hk'
      · rename_i h2; exact .inr ⟨h2, hk'⟩
  have hok2 : ∀ g, okc C ρ w g → okc C ρ2 w' g := fun g hg => ⟨hg.1, by have := hg.2.1; omega, fun ⟨k, o, n, hk⟩ => by
    rcases hcase k g o n hk with ⟨i, rfl, hi, hl⟩ | ⟨_, hl⟩
    · rcases (hoff i g o n hi hl).1 with ⟨b, _, o', n', hb'⟩ | h1
      · exact hg.2.2 ⟨b, o', n', hb'⟩
      · have := hg.2.1; omega
    · exact hg.2.2 ⟨k, o, n, hl⟩⟩
  have hokw : ∀ g, okc C ρ w g → w'.heap[g]? = w.heap[g]? := fun g hg => hheap g hg.2.1 (fun b _ o n hl => hg.2.2 ⟨b, o, n, hl⟩) (fun b _ o n hl => hg.2.2 ⟨b, o, n, hl⟩)
  have hlater : Later U ρ ρ2 := fun k hk => by
    by_cases hG : k ∈ G
    · exact .inr (hρ2G k hG)
    · exact .inl (hρ2U k hk hG)
  have hlift : ∀ g, okc C' ρ1 w' g → okc C ρ2 w' g := fun g hg => by
    refine ⟨?_, hg.2.1, fun ⟨k, o, n, hk⟩ => ?_⟩
    · rcases hg.1 with h1 | ⟨b, hbG, o, n, hl⟩ | h1
      · exact h1.1
      · exact .inr (hgivo b hbG g o n hl (hr.ownl g ⟨b, o, n, hl⟩).1)
      · exact .inr (.inr (Nat.le_trans hr.size h1))
    · rcases hcase k g o n hk with ⟨i, rfl, hi, hl⟩ | ⟨hG, hl⟩
      · exact hg.2.2 ⟨_, o, n, hl⟩
      · rcases hg.1 with h1 | ⟨b, hbG, o', n', hl'⟩ | h1
        · exact h1.2.2 ⟨k, o, n, hl⟩
        · have := hr.inj k b g o n o' n' hl hl'
          subst this
          exact hG hbG
        · have := hold k g o n hl
          have h1' : w.heap.size ≤ g := h1
          omega
  have hSo : ∀ k i, get (outS B nm es.length) k = some i → U2 k ∧ ρ2 k = ρ1 i := fun k i hk => by
    rcases outS_get hk with h1 | ⟨h1, h2, rfl⟩
    · have hkB := List.mem_of_getElem? h1
      have hfx := (hr1.fix i (ρ k) (by show (B[i]?).map ρ = _; rw [h1]; rfl)).1
      exact ⟨.inl (hbU k hkB).1, by rw [hρ2U k (hbU k hkB).1 (fun hG => hBG k hkB hG), hfx]⟩
    · exact ⟨.inr ⟨h1, h2⟩, hρ2n k ⟨h1, h2⟩⟩
  refine ⟨v, r', _, ρ2, U2, rfl, ⟨fun k o hk => ?_, fun k hk => ?_, fun k k' g o n o' n' h1 h2 => ?_, hr1.os.trans hr.os, hr1.tape.trans hr.tape, hr1.output.trans hr.output, Nat.le_trans hr.size hsz,
    fun g hg he hv => ?_, hr.okl, fun g ho => ?_, fun b l hb2 => ?_⟩, hv1.rn hSo hlift (fun _ _ => rfl) r' hr', fun x u hx => hx.mono hok2 hokw (fun k hk => .inl hk) hlater, fun b hb2 => ?_, hQ⟩
  · rw [get_append, get_obsFrom] at hk
    by_cases hin : nm ≤ k ∧ k < nm + es.length
    · have hi : k - nm < es'.length := by omega
      rw [if_pos hin.1, List.getElem?_eq_getElem hi] at hk
      cases hk
      obtain ⟨x, hx1, hx2⟩ := he (k - nm) _ (List.getElem?_eq_getElem hi)
      refine ⟨.inr hin, ?_⟩
      rw [hρ2n k hin]
      have hgt : get (outs bs' es) (4 + (k - nm)) = some x := get_outs_exp (by omega) hx1
      exact (hr1.hp _ _ hgt).2.rn hSo hlift (fun _ _ => rfl) (fun _ _ _ _ => rfl) hx2
    · have hno : (if nm ≤ k then es'[k - nm]? else none) = none := by
        split
        · exact List.getElem?_eq_none (by omega)
        · rfl
      rw [hno] at hk
      simp only [get_append] at hk
      cases hbx : get (boxesAt B cs') k with
      | some o' =>
        rw [hbx] at hk; cases hk
        obtain ⟨i, c2, h1, h2, rfl⟩ := get_boxesAt B cs' k _ hbx
        have hkB := List.mem_of_getElem? h1
        refine ⟨.inl (hbU k hkB).1, ?_⟩
        obtain ⟨x, hx1, hx2⟩ := hb' i c2 h2
        have hfx := (hr1.fix i (ρ k) (by show (B[i]?).map ρ = _; rw [h1]; rfl)).1
        rw [hρ2U k (hbU k hkB).1 (fun hG => hBG k hkB hG), ← hfx]
        exact (hr1.hp i _ (get_outs_box hx1)).2.rn hSo hlift (fun _ _ => rfl) (fun _ _ _ _ => rfl) (by simp only [rvO]; exact hx2)
      | none =>
        rw [hbx] at hk
        simp only [get_kills] at hk
        by_cases hG : k ∈ G
        · rw [if_pos hG] at hk
          cases hk
          exact ⟨.inl (hgU k hG).1, hρ2G k hG⟩
        · rw [if_neg hG] at hk
          simp only at hk
          obtain ⟨hUk, ho⟩ := hr.hp k o hk
          refine ⟨.inl hUk, ?_⟩
          rw [hρ2U k hUk hG]
          refine ObR.mono hok2 hokw (fun k hk => .inl hk) hlater (fun g o n hl => hheap g (hold k g o n hl) (fun b hbB o' n' hb2 => ?_) (fun b hbG o' n' hb2 => ?_)) ho
          · have := hr.inj k b g o n o' n' hl hb2
            subst this
            exact get_boxesAt_none B cs' k hbx hcl'.symm hbB
          · have := hr.inj k b g o n o' n' hl hb2
            subst this
            exact hG hbG
  · rw [get_append, get_obsFrom] at hk
    have hin : ¬ (nm ≤ k ∧ k < nm + es.length) := fun hh => by
      rw [if_pos hh.1, List.getElem?_eq_getElem (show k - nm < es'.length by omega)] at hk
      cases hk
    have hno : (if nm ≤ k then es'[k - nm]? else none) = none := by
      split
      · exact List.getElem?_eq_none (by omega)
      · rfl
    rw [hno] at hk
    simp only [get_append] at hk
    show (if _ then _ else _) = _
    rw [if_neg hin]
    cases hbx : get (boxesAt B cs') k with
    | some o' => rw [hbx] at hk; cases hk
    | none =>
      rw [hbx] at hk
      simp only [get_kills] at hk
      by_cases hG : k ∈ G
      · rw [if_pos hG]
      · rw [if_neg hG] at hk ⊢
        exact hr.hd k hk
  · rcases hcase k g o n h1 with ⟨i, rfl, hi, hl⟩ | ⟨hG, hl⟩ <;> rcases hcase k' g o' n' h2 with ⟨i', rfl, hi', hl'⟩ | ⟨hG', hl'⟩
    · have := hr1.inj _ _ g o n o' n' hl hl'
      omega
    · rcases (hoff i g o n hi hl).1 with ⟨b, hbG, o2, n2, hb2⟩ | h3
      · have := hr.inj k' b g o' n' o2 n2 hl' hb2
        subst this; exact (hG' hbG).elim
      · have := hold _ g o' n' hl'; omega
    · rcases (hoff i' g o' n' hi' hl').1 with ⟨b, hbG, o2, n2, hb2⟩ | h3
      · have := hr.inj k b g o n o2 n2 hl hb2
        subst this; exact (hG hbG).elim
      · have := hold _ g o n hl; omega
    · exact hr.inj _ _ g o n o' n' hl hl'
  · have hg' : g < w.heap.size := Nat.lt_of_lt_of_le hg hr.size
    rw [← hr.old g hg he hv]
    have key : ∀ b o n, ρ b ≠ .at g o n := fun b o n hl => by
      rcases (hr.ownl g ⟨b, o, n, hl⟩).1 with h1 | h1 | h1
      · exact he h1
      · exact hv h1
      · omega
    exact hheap g hg' (fun b _ => key b) (fun b _ => key b)
  · obtain ⟨k, o, n, hk⟩ := ho
    rcases hcase k g o n hk with ⟨i, rfl, hi, hl⟩ | ⟨hG, hl⟩
    · have h1 := hoff i g o n hi hl
      refine ⟨?_, h1.2⟩
      rcases h1.1 with ⟨b, hbG, o2, n2, hb2⟩ | h3
      · exact (hr.ownl g ⟨b, o2, n2, hb2⟩).1
      · exact .inr (.inr (Nat.le_trans hr.size h3))
    · exact ⟨(hr.ownl g ⟨k, o, n, hl⟩).1, by have := hold k g o n hl; omega⟩
  · obtain ⟨h1, h2, cs0, h3⟩ := hr.fix b l hb2
    have hG : b ∉ G := fun hG => by
      obtain ⟨_, o, h5, h6⟩ := hgU b hG
      rw [h3] at h5; cases h5
      simp [isRow] at h6
    refine ⟨by rw [hρ2U b h2 hG]; exact h1, .inl h2, ?_⟩
    have hin : ¬ (nm ≤ b ∧ b < nm + es.length) := fun hh => hfr b h2 ⟨hh.1, by omega⟩
    have hno : (if nm ≤ b then es'[b - nm]? else none) = none := by
      split
      · exact List.getElem?_eq_none (by omega)
      · rfl
    rw [get_append, get_obsFrom, hno]
    simp only [get_append, get_kills]
    cases hbx : get (boxesAt B cs') b with
    | some o' =>
      obtain ⟨i, c2, _, _, rfl⟩ := get_boxesAt B cs' b _ hbx
      exact ⟨c2, rfl⟩
    | none =>
      simp only [if_neg hG]
      exact ⟨cs0, h3⟩
  · rcases hb2 with h1 | h1
    · exact .inl h1
    · exact .inr ⟨h1.1, by omega⟩
end
end Go.Eng

namespace Go.Eng
open Go
section
variable {P : Program} {f : FuncId} {xs ys : List AV} {bs bs' cs' : List (List AV)} {gs es es' : List Ob} {r r' : AV} {h : List (Nat × Ob)} {nm : Nat}
def boxG (h : List (Nat × Ob)) (S : List (Nat × Nat)) : List Nat → List (List AV) → Prop
  | [], [] => True
  | b :: B, cs :: bs => (match get h b with
    | some (.box cs0) => rvL [] S [] cs cs0
    | _ => False) ∧ boxG h S B bs
  | _, _ => False
def rowG (h : List (Nat × Ob)) : List Nat → List Ob → Prop
  | [], [] => True
  | b :: G, o :: gs => (get h b = some o ∧ isRow o = true) ∧ rowG h G gs
  | _, _ => False
def outB (S : List (Nat × Nat)) : List (List AV) → List (List AV) → Prop
  | [], [] => True
  | c :: cs, x :: xs => rvL [] S [] c x ∧ outB S cs xs
  | _, _ => False
def outE (S : List (Nat × Nat)) : List Ob → List Ob → Prop
  | [], [] => True
  | c :: cs, x :: xs => rvO [] S [] c x ∧ outE S cs xs
  | _, _ => False
theorem boxG_get {S : List (Nat × Nat)} : ∀ (B : List Nat) (bs : List (List AV)), boxG h S B bs → bs.length = B.length ∧ ∀ (i b : Nat), B[i]? = some b → ∃ cs cs0, bs[i]? = some cs ∧ get h b = some (.box cs0) ∧ rvL [] S [] cs cs0
  | [], [], _ => ⟨rfl, fun i b hi => by simp at hi⟩
  | b :: B, cs :: bs, hx => by
    simp only [boxG] at hx
    obtain ⟨h1, h2⟩ := boxG_get B bs hx.2
    refine ⟨by simp [h1], fun i c hi => ?_⟩
    cases i with
    | zero =>
      simp at hi; subst hi
      obtain ⟨h3, _⟩ := hx
      split at h3
      · rename_i cs0 hc; exact ⟨cs, cs0, rfl, hc, h3⟩
      · exact h3.elim
    | succ i => simpa using h2 i c (by simpa using hi)
  | [], _ :: _, hx => by simp [boxG] at hx
  | _ :: _, [], hx => by simp [boxG] at hx
theorem rowG_get : ∀ (G : List Nat) (gs : List Ob), rowG h G gs → gs.length = G.length ∧ ∀ (i b : Nat), G[i]? = some b → ∃ o, gs[i]? = some o ∧ get h b = some o ∧ isRow o = true
  | [], [], _ => ⟨rfl, fun i b hi => by simp at hi⟩
  | b :: G, o :: gs, hx => by
    simp only [rowG] at hx
    obtain ⟨h1, h2⟩ := rowG_get G gs hx.2
    refine ⟨by simp [h1], fun i c hi => ?_⟩
    cases i with
    | zero => simp at hi; subst hi; exact ⟨o, rfl, hx.1.1, hx.1.2⟩
    | succ i => simpa using h2 i c (by simpa using hi)
  | [], _ :: _, hx => by simp [rowG] at hx
  | _ :: _, [], hx => by simp [rowG] at hx
theorem outB_get {S : List (Nat × Nat)} : ∀ (cs xs : List (List AV)), outB S cs xs → cs.length = xs.length ∧ ∀ (i : Nat) (c : List AV), cs[i]? = some c → ∃ x, xs[i]? = some x ∧ rvL [] S [] c x
  | [], [], _ => ⟨rfl, fun i b hi => by simp at hi⟩
  | c :: cs, x :: xs, hx => by
    simp only [outB] at hx
    obtain ⟨h1, h2⟩ := outB_get cs xs hx.2
    refine ⟨by simp [h1], fun i b hi => ?_⟩
    cases i with
    | zero => simp at hi; subst hi; exact ⟨x, rfl, hx.1⟩
    | succ i => simpa using h2 i b (by simpa using hi)
  | [], _ :: _, hx => by simp [outB] at hx
  | _ :: _, [], hx => by simp [outB] at hx
theorem outE_get {S : List (Nat × Nat)} : ∀ (cs xs : List Ob), outE S cs xs → cs.length = xs.length ∧ ∀ (i : Nat) (c : Ob), cs[i]? = some c → ∃ x, xs[i]? = some x ∧ rvO [] S [] c x
  | [], [], _ => ⟨rfl, fun i b hi => by simp at hi⟩
  | c :: cs, x :: xs, hx => by
    simp only [outE] at hx
    obtain ⟨h1, h2⟩ := outE_get cs xs hx.2
    refine ⟨by simp [h1], fun i b hi => ?_⟩
    cases i with
    | zero => simp at hi; subst hi; exact ⟨x, rfl, hx.1⟩
    | succ i => simpa using h2 i b (by simpa using hi)
  | [], _ :: _, hx => by simp [outE] at hx
  | _ :: _, [], hx => by simp [outE] at hx
theorem boxG_congr {h' : List (Nat × Ob)} {S : List (Nat × Nat)} : ∀ (B : List Nat) (bs : List (List AV)), (∀ b ∈ B, get h' b = get h b) → boxG h S B bs → boxG h' S B bs
  | [], [], _, _ => by simp [boxG]
  | b :: B, cs :: bs, he, hx => by
    simp only [boxG] at hx ⊢
    rw [he b (by simp)]
    exact ⟨hx.1, boxG_congr B bs (fun c hc => he c (by simp [hc])) hx.2⟩
  | [], _ :: _, _, hx => by simp [boxG] at hx
  | _ :: _, [], _, hx => by simp [boxG] at hx
theorem rowG_congr {h' : List (Nat × Ob)} : ∀ (G : List Nat) (gs : List Ob), (∀ b ∈ G, get h' b = get h b) → rowG h G gs → rowG h' G gs
  | [], [], _, _ => by simp [rowG]
  | b :: G, o :: gs, he, hx => by
    simp only [rowG] at hx ⊢
    rw [he b (by simp)]
    exact ⟨hx.1, rowG_congr G gs (fun c hc => he c (by simp [hc])) hx.2⟩
  | [], _ :: _, _, hx => by simp [rowG] at hx
  | _ :: _, [], _, hx => by simp [rowG] at hx
theorem FnG.callD (hF : FnG P f xs bs gs r bs' es) (B G : List Nat) (r' : AV) (cs' : List (List AV)) (es' : List Ob) (ha : rvL [] (inS B G) [] xs ys) (hb : boxG h (inS B G) B bs) (hg : rowG h G gs)
    (hd : (decide (B.length ≤ 4) && (decide (G.length ≤ 4) && (decide ((B ++ G).Nodup) && (decide (bs'.length = B.length) && decide (es.length ≤ 8))))) = true)
    (hb' : outB (outS B nm es.length) cs' bs') (he : outE (outS B nm es.length) es' es) (hr : rv [] (outS B nm es.length) [] r' r) :
    CallD P nm f ys h ⟨r', obsFrom nm es' ++ (boxesAt B cs' ++ kills G), B ++ G⟩ := by
  intro h' hh Q hQ
  simp only [Bool.and_eq_true, decide_eq_true_eq] at hd
  obtain ⟨h1, h2, h3, h4, h5⟩ := hd
  obtain ⟨b1, b2⟩ := boxG_get B bs (boxG_congr (h' := h') B bs (fun b hb => hh b (by simp [hb])) hb)
  obtain ⟨g1, g2⟩ := rowG_get G gs (rowG_congr (h' := h') G gs (fun b hb => hh b (by simp [hb])) hg)
  obtain ⟨o1, o2⟩ := outB_get cs' bs' hb'
  obtain ⟨e1, e2⟩ := outE_get es' es he
  refine hF.call ha b1 g1 h1 h2 h3 b2 g2 h4 (o1.trans h4) o2 e1 h5 e2 hr ?_
  simpa only [List.append_assoc] using hQ
end
end Go.Eng

namespace Go.Eng
open Go
mutual
theorem rv_stay {h h' : List (Nat × Ob)} {Z : List Nat} (he : ∀ b ∈ Z, get h' b = get h b) : ∀ (x y : AV), (∀ b ∈ deep y, b ∈ Z) → rv h [] [] x y → rv h' (stay h' Z) [] x y
  | .own k sz off len, y, _, hx => by
    unfold rv at hx
    split at hx
    · simp [get] at hx
    · simp at hx
    · exact hx.elim
  | .ptr k j, y, _, hx => by
    unfold rv at hx
    split at hx
    · simp [get] at hx
    · exact hx.elim
  | .rp .., y, _, hx => by
    unfold rv at hx
    split at hx
    · simp [get] at hx
    · exact hx.elim
  | .mp .., y, _, hx => by
    unfold rv at hx
    split at hx
    · simp [get] at hx
    · exact hx.elim
  | .v _, y, _, hx => by unfold rv at hx ⊢; exact hx
  | .sl sz ys, y, hh, hx => by
    cases y with
    | own b sz' off' len =>
      simp only [deep, List.mem_singleton, forall_eq] at hh
      simp only [rv, he b hh] at hx ⊢
      refine ⟨fun hm => ?_, hx.2⟩
      obtain ⟨c, hc⟩ := List.mem_map.1 hm
      simp only [stay, List.mem_map, List.mem_filter] at hc
      obtain ⟨⟨k, ⟨_, hk2⟩, rfl⟩, rfl⟩ := hc
      simp [hh] at hk2
    | v a =>
      unfold rv at hx ⊢
      split at hx
      · rename_i e; cases e
      · rename_i e; cases e; exact hx
      · rename_i e; cases e
      · exact hx.elim
    | _ => simp only [rv] at hx ⊢ <;> exact hx
  | .pel cs j, y, hh, hx => by
    cases y with
    | rp b sz i j' =>
      simp only [deep, List.mem_singleton, forall_eq] at hh
      simp only [rv, he b hh] at hx ⊢
      refine ⟨fun hm => ?_, hx.2⟩
      obtain ⟨c, hc⟩ := List.mem_map.1 hm
      simp only [stay, List.mem_map, List.mem_filter] at hc
      obtain ⟨⟨k, ⟨_, hk2⟩, rfl⟩, rfl⟩ := hc
      simp [hh] at hk2
    | _ => simp only [rv] at hx ⊢ <;> exact hx
  | .agg ys, y, hh, hx => by
    cases y <;> unfold rv at hx ⊢ <;> try exact hx
    exact rvL_stay he ys _ (by simpa only [deep] using hh) hx
  | .tup ys, y, hh, hx => by
    cases y <;> unfold rv at hx ⊢ <;> try exact hx
    exact rvL_stay he ys _ (by simpa only [deep] using hh) hx
  | .fn f ys, y, hh, hx => by
    cases y <;> unfold rv at hx ⊢ <;> try exact hx
    exact ⟨hx.1, rvL_stay he ys _ (by simpa only [deep] using hh) hx.2⟩
theorem rvL_stay {h h' : List (Nat × Ob)} {Z : List Nat} (he : ∀ b ∈ Z, get h' b = get h b) : ∀ (xs ys : List AV), (∀ b ∈ deepL ys, b ∈ Z) → rvL h [] [] xs ys → rvL h' (stay h' Z) [] xs ys
  | [], [], _, _ => by simp only [rvL]
  | x :: xs, y :: ys, hh, hx => by
    simp only [rvL] at hx ⊢
    simp only [deepL, List.mem_append] at hh
    exact ⟨rv_stay he x y (fun b hb => hh b (.inl hb)) hx.1, rvL_stay he xs ys (fun b hb => hh b (.inr hb)) hx.2⟩
  | [], _ :: _, _, hx => by simp only [rvL] at hx
  | _ :: _, [], _, hx => by simp only [rvL] at hx
end
section
variable {P : Program} {f : FuncId} {xs ys : List AV} {r : AV} {es : List Ob} {h : List (Nat × Ob)} {nm : Nat}
def rowsAt (h : List (Nat × Ob)) : List Nat → Bool
  | [] => true
  | b :: Z => (match get h b with
    | some (.row _ _ _) => true
    | _ => false) && rowsAt h Z
theorem rowsAt_get : ∀ (Z : List Nat), rowsAt h Z = true → ∀ b ∈ Z, ∃ e sz xs, get h b = some (.row e sz xs)
  | [], _, b, hb => by simp at hb
  | z :: Z, hz, b, hb => by
    simp only [rowsAt, Bool.and_eq_true] at hz
    rcases List.mem_cons.1 hb with rfl | hb
    · obtain ⟨h1, _⟩ := hz
      split at h1
      · rename_i e sz xs hx; exact ⟨e, sz, xs, hx⟩
      · cases h1
    · exact rowsAt_get Z hz.2 b hb
theorem Fn.callE (hF : Fn P f xs [] r [] es) (hp : pureL xs = true) (hes : es.all rowOk = true) (hm : es.length ≤ 8) (hx : expA es.length r = true) : CallD P nm f xs h ⟨sh nm r, obsFrom nm es, []⟩ := by
  have := hF.callD (h := h) nm [] [] (argsR_pure xs hp) (by simp only [boxesR]) (by simp) (by simp) rfl (by simp only [argsLL]) hes hm hx
  simpa only [boxesAt, List.append_nil] using this
end
attribute [go_sem] obsFrom
end Go.Eng

namespace Go.Eng
open Go
theorem VR.rnNa {w w' : World} {ok ok' : Nat → Prop} {ρ ρ' : Nat → Loc} {U U' : Nat → Prop} {S : List (Nat × Nat)} (hS : ∀ k b, get S k = some b → U' k ∧ ρ' k = ρ b) {y : AV} {u : Value} (h : VR w ok ρ U y u) (hn : na y = true) :
    ∀ x, rv [] S [] x y → VR w' ok' ρ' U' x u := by
  have key : VR w' ok' ρ U y u := by
    induction h with
    | p h => exact .p (h.na hn)
    | agg hl _ ih => exact .agg hl fun i c u h1 h2 => ih i c u h1 h2 (naL_get _ (by simpa [na] using hn) i c h1)
    | tup hl _ ih => exact .tup hl fun i c u h1 h2 => ih i c u h1 h2 (naL_get _ (by simpa [na] using hn) i c h1)
    | fn hf hl _ ih => exact .fn hf hl fun i c u h1 h2 => ih i c u h1 h2 (naL_get _ (by simpa [na] using hn) i c h1)
    | own hu h => exact .own hu h
    | ptr => simp [na] at hn
    | rp => simp [na] at hn
    | mp => simp [na] at hn
  exact key.rn hS (fun _ h => h) (fun _ _ => rfl)
theorem ObR.rnNa {w' : World} {ok ok' : Nat → Prop} {ρ ρ' : Nat → Loc} {U U' : Nat → Prop} {S : List (Nat × Nat)} (hS : ∀ k b, get S k = some b → U' k ∧ ρ' k = ρ b) {l : Loc} {x y : Ob} (h : ObR w' ok ρ U l y) (hn : rowNa y)
    (hx : rvO [] S [] x y) : ObR w' ok' ρ' U' l x := by
  cases y with
  | box cs =>
    cases x with
    | box ds =>
      simp only [rvO] at hx
      obtain ⟨g, o, n, e, cells, h1, h2, h3, h4, h5⟩ := h
      have h6 := rvL_len _ _ hx
      refine ⟨g, o, n, e, cells, h1, h2, h3, by omega, fun j c hj => ?_⟩
      obtain ⟨z, h7, h8⟩ := rvL_get _ _ hx j c hj
      obtain ⟨u, hu, hv⟩ := h5 j z h7
      exact ⟨u, hu, hv.rnNa hS (hn z (List.mem_of_getElem? h7)) c h8⟩
    | _ => simp only [rvO] at hx
  | row e sz xs =>
    cases x with
    | row e' sz' ys =>
      simp only [rvO] at hx
      obtain ⟨rfl, rfl, rfl⟩ := hx
      rcases h with h | ⟨g, o, n, cells, h1, h2, h3, h4, h5, h6⟩
      · exact .inl h
      · refine .inr ⟨g, o, n, cells, h1, h2, h3, h4, h5, fun k x j c hk hj => ?_⟩
        obtain ⟨u, hu, h1c, hv⟩ := h6 k x j c hk hj
        exact ⟨u, hu, h1c, hv.na (hn x (List.mem_of_getElem? hk) c (List.mem_of_getElem? hj))⟩
    | _ => simp only [rvO] at hx
  | _ => simp [rowNa] at hn
section
variable {P : Program} {f : FuncId} {xs ys : List AV} {bs bs' cs' : List (List AV)} {es es' : List Ob} {r r' : AV} {h : List (Nat × Ob)} {B : List Nat} {nm : Nat} {Q : AV → List (Nat × Ob) → Prop}
theorem FnG.callS (hF : FnG P f xs bs [] r bs' es) (ha : rvL h (inS B []) [] xs ys)
    (hbl : bs.length = B.length) (hB4 : B.length ≤ 4) (hndB : B.Nodup)
    (hb : ∀ (i b : Nat), B[i]? = some b → ∃ cs cs0, bs[i]? = some cs ∧ get h b = some (.box cs0) ∧ rvL [] (inS B []) [] cs cs0)
    (hbl' : bs'.length = B.length) (hcl' : cs'.length = B.length) (hb' : ∀ (i : Nat) (c : List AV), cs'[i]? = some c → ∃ x, bs'[i]? = some x ∧ naL x = true ∧ rvL [] (outS B nm es.length) [] c x)
    (hel : es'.length = es.length) (hm : es.length ≤ 8) (he : ∀ (i : Nat) (y : Ob), es'[i]? = some y → ∃ x, es[i]? = some x ∧ rowNa x ∧ rvO [] (outS B nm es.length) [] y x)
    (hna : na r = true) (hr' : rv [] (outS B nm es.length) [] r' r) (hQ : Q r' (obsFrom nm es' ++ (boxesAt B cs' ++ h))) : wpCall P nm f ys h Q := by
  refine ⟨hF.1, fun C ρ U w vals hr hfr hvl => ?_⟩
  have hbU : ∀ b ∈ B, U b ∧ ∃ cs0, get h b = some (.box cs0) := fun b hbB => by
    obtain ⟨i, hi⟩ := List.mem_iff_getElem?.1 hbB
    obtain ⟨cs, cs0, _, h2, _⟩ := hb i b hi
    exact ⟨(hr.hp b _ h2).1, cs0, h2⟩
  let C' : Ctx := ⟨w, okc C (newLoc ρ (inS B []) []) w, (fun g => ∃ b ∈ B, ∃ o n, ρ b = Loc.at g o n), (fun i => (B[i]?).map ρ), 0, (fun g hg => by
      obtain ⟨b, hbB, o, n, hl⟩ := hg
      obtain ⟨i, hi⟩ := List.mem_iff_getElem?.1 hbB
      exact ⟨i, o, n, by simp [hi, hl]⟩), (fun i l hl => by
      rcases Nat.lt_or_ge i B.length with h1 | h1
      · omega
      · simp [List.getElem?_eq_none h1] at hl), (fun _ => False), (fun _ h => h.elim)⟩
  -- the callee's names
  let ρc : Nat → Loc := newLoc ρ (inS B []) []
  let Uc : Nat → Prop := fun k => ∃ b, get (inS B []) k = some b
  have hρc : ∀ k b, get (inS B []) k = some b → ρc k = ρ b := fun k b hk => newLoc_of hk
  have hcase0 : ∀ k g o n, ρc k = .at g o n → ∃ b, get (inS B []) k = some b ∧ ρ b = .at g o n := fun k g o n hk => by
    cases hs : get (inS B []) k with
    | none =>
      have : ρc k = .dead := by show newLoc ρ (inS B []) [] k = _; simp [newLoc, hs]
      rw [this] at hk; cases hk
    | some b => exact ⟨b, rfl, by rw [← hρc k b hs]; exact hk⟩
  have hown0 : ∀ g, Owned ρc g → Owned ρ g := fun g ⟨k, o, n, hk⟩ => by
    obtain ⟨b, _, hb⟩ := hcase0 k g o n hk
    exact ⟨b, o, n, hb⟩
  have hokx : ∀ g, okc C ρc w g → okc C' ρc w g := fun g hg => ⟨.inl hg, hg.2.1, hg.2.2⟩
  have hok : ∀ g, okc C ρ w g → okc C' ρc w g := fun g hg => hokx g (newOk hg)
  have hSi : ∀ k b, get (inS B []) k = some b → Uc k ∧ ρc k = ρ b := fun k b hk => ⟨⟨b, hk⟩, hρc k b hk⟩
  have hUc8 : ∀ k, Uc k → k < 8 := fun k ⟨b, hk⟩ => by
    rcases inS_get hk with h1 | ⟨h1, h2⟩
    · have := (List.getElem?_eq_some_iff.1 h1).1; omega
    · simp at h2
  have hr0 : HR C' ρc Uc (outs bs []) w := by
    refine ⟨fun k o hk => ?_, fun k hk => ?_, fun k k' g o n o' n' h1 h2 => ?_, rfl, rfl, rfl, Nat.le_refl _, fun g _ _ _ => rfl,
      fun g hg => ⟨hg.2.1, fun ⟨b, hbB, o, n, hl⟩ => by
        obtain ⟨i, hi⟩ := List.mem_iff_getElem?.1 hbB
        have hs := inS_box (G := []) hi hB4
        exact hg.2.2 ⟨i, o, n, (hρc i b hs).trans hl⟩, fun h => h⟩, fun g ho => ?_, fun i l hi => ?_⟩
    · unfold outs at hk
      rw [get_append, boxesFrom, get_obsFrom] at hk
      simp only [Nat.zero_le, if_true, Nat.sub_zero, List.getElem?_map] at hk
      cases hbk : bs[k]? with
      | some cs =>
        rw [hbk] at hk
        simp only [Option.map_some, Option.some.injEq] at hk
        subst hk
        have hlt : k < B.length := by rw [← hbl]; exact (List.getElem?_eq_some_iff.1 hbk).1
        have hib : B[k]? = some B[k] := List.getElem?_eq_getElem hlt
        obtain ⟨cs1, cs0, h1, h2, h3⟩ := hb k _ hib
        rw [hbk] at h1; cases h1
        have hs := inS_box (G := []) hib hB4
        refine ⟨⟨_, hs⟩, ?_⟩
        rw [hρc k _ hs]
        exact (hr.hp _ _ h2).2.rn hSi hok (fun _ _ => rfl) (fun _ _ _ _ => rfl) (by simp only [rvO]; exact h3)
      | none =>
        rw [hbk] at hk
        simp only [Option.map_none] at hk
        simp [obsFrom, get] at hk
    · cases hs : get (inS B []) k with
      | none => show newLoc ρ (inS B []) [] k = _; simp [newLoc, hs]
      | some b =>
        unfold outs at hk
        rw [get_append, boxesFrom, get_obsFrom] at hk
        simp only [Nat.zero_le, if_true, Nat.sub_zero, List.getElem?_map] at hk
        rcases inS_get hs with h1 | ⟨h1, h2⟩
        · have hlt : k < bs.length := by rw [hbl]; exact (List.getElem?_eq_some_iff.1 h1).1
          rw [List.getElem?_eq_getElem hlt] at hk
          simp at hk
        · simp at h2
    · obtain ⟨b, hs, hl⟩ := hcase0 k g o n h1
      obtain ⟨b', hs', hl'⟩ := hcase0 k' g o' n' h2
      have e := hr.inj b b' g o n o' n' hl hl'
      subst e
      rcases inS_get hs with h3 | ⟨h3, h4⟩ <;> rcases inS_get hs' with h5 | ⟨h5, h6⟩
      · obtain ⟨p1, q1⟩ := List.getElem?_eq_some_iff.1 h3
        obtain ⟨p2, q2⟩ := List.getElem?_eq_some_iff.1 h5
        exact (List.getElem_inj hndB).1 (q1.trans q2.symm)
      · exact absurd h6 (by simp)
      · exact absurd h4 (by simp)
      · simp at h4
    · obtain ⟨k, o, n, hk⟩ := ho
      obtain ⟨b, hs, hl⟩ := hcase0 k g o n hk
      refine ⟨?_, (hr.ownl g ⟨b, o, n, hl⟩).2⟩
      rcases inS_get hs with h3 | ⟨h3, h4⟩
      · exact .inl ⟨b, List.mem_of_getElem? h3, o, n, hl⟩
      · simp at h4
    · have hlt : i < B.length := by
        rcases Nat.lt_or_ge i B.length with h1 | h1
        · exact h1
        · simp [C', List.getElem?_eq_none h1] at hi
      have hib : B[i]? = some B[i] := List.getElem?_eq_getElem hlt
      obtain ⟨cs, cs1, h1, h2, h3⟩ := hb i _ hib
      have hs := inS_box (G := []) hib hB4
      refine ⟨?_, ⟨_, hs⟩, cs, ?_⟩
      · rw [hρc i _ hs]
        simp only [C', hib, Option.map_some, Option.some.injEq] at hi
        exact hi
      · exact get_outs_box h1
  have hvl0 : VL w (okc C' ρc w) ρc Uc xs vals := by
    have hl := rvL_len _ _ ha
    refine ⟨by rw [hl]; exact hvl.1, fun i x u hi hu => ?_⟩
    obtain ⟨y, hy, hxy⟩ := rvL_get _ _ ha i x hi
    exact (rv_vr hr (hvl.2 i y u hy hu) x hxy).mono hokx (fun _ _ => rfl) (fun k hk => by
      rcases hk with hk | hk
      · exact get_keys hk
      · simp at hk) (fun _ _ => .inl rfl)
  refine (hF.2 C' ρc Uc w vals hr0 hUc8 hvl0).mono fun e w' hpost => ?_
  obtain ⟨v, ρ1, U1, rfl, hr1, hv1⟩ := hpost
  -- afterwards
  let ρ2 : Nat → Loc := fun k => if nm ≤ k ∧ k < nm + es.length then ρ1 (4 + (k - nm)) else ρ k
  let U2 : Nat → Prop := fun k => U k ∨ (nm ≤ k ∧ k < nm + es.length)
  have hρ2n : ∀ k, nm ≤ k ∧ k < nm + es.length → ρ2 k = ρ1 (4 + (k - nm)) := fun k hk => by show (if _ then _ else _) = _; rw [if_pos hk]
  have hρ2U : ∀ k, U k → ρ2 k = ρ k := fun k hk => by
    show (if _ then _ else _) = _
    rw [if_neg (fun hh => hfr k hk ⟨hh.1, by omega⟩)]
  have hsz : w.heap.size ≤ w'.heap.size := hr1.size
  have hoff : ∀ i g o n, i < es.length → ρ1 (4 + i) = .at g o n → w.heap.size ≤ g ∧ g < w'.heap.size := fun i g o n hi hl => by
    obtain ⟨h1, h2⟩ := hr1.ownl g ⟨_, o, n, hl⟩
    refine ⟨?_, h2⟩
    rcases h1 with h1 | h1 | h1
    · obtain ⟨b, o', n', hb⟩ := C'.extl g h1
      obtain ⟨h3, _, _⟩ := hr1.fix b _ hb
      have := hr1.inj (4 + i) b g o n o' n' hl h3
      have := C'.locb b _ hb
      omega
    · exact h1.elim
    · exact h1
  have hold : ∀ k g o n, ρ k = .at g o n → g < w.heap.size := fun k g o n hl => (hr.ownl g ⟨k, o, n, hl⟩).2
  have hheap : ∀ g, g < w.heap.size → (∀ b ∈ B, ∀ o n, ρ b ≠ .at g o n) → w'.heap[g]? = w.heap[g]? := fun g hg h1 =>
    hr1.old g hg (fun ⟨b, hbB, o, n, hl⟩ => h1 b hbB o n hl) (fun h => h)
  have hcase : ∀ k g o n, ρ2 k = .at g o n → (∃ i, k = nm + i ∧ i < es.length ∧ ρ1 (4 + i) = .at g o n) ∨ ρ k = .at g o n := fun k g o n hk => by
    by_cases h1 : nm ≤ k ∧ k < nm + es.length
    · rw [hρ2n k h1] at hk
      exact .inl ⟨k - nm, by omega, by omega, hk⟩
    · have : ρ2 k = ρ k := by show (if _ then _ else _) = _; rw [if_neg h1]
      rw [this] at hk
      exact .inr hk
  have hok2 : ∀ g, okc C ρ w g → okc C ρ2 w' g := fun g hg => ⟨hg.1, by have := hg.2.1; omega, fun ⟨k, o, n, hk⟩ => by
    rcases hcase k g o n hk with ⟨i, rfl, hi, hl⟩ | hl
    · have := (hoff i g o n hi hl).1
      have := hg.2.1; omega
    · exact hg.2.2 ⟨k, o, n, hl⟩⟩
  have hokw : ∀ g, okc C ρ w g → w'.heap[g]? = w.heap[g]? := fun g hg => hheap g hg.2.1 (fun b _ o n hl => hg.2.2 ⟨b, o, n, hl⟩)
  have hlater : Later U ρ ρ2 := fun k hk => .inl (hρ2U k hk)
  have hSo : ∀ k i, get (outS B nm es.length) k = some i → U2 k ∧ ρ2 k = ρ1 i := fun k i hk => by
    rcases outS_get hk with h1 | ⟨h1, h2, rfl⟩
    · have hkB := List.mem_of_getElem? h1
      have hfx := (hr1.fix i (ρ k) (by show (B[i]?).map ρ = _; rw [h1]; rfl)).1
      exact ⟨.inl (hbU k hkB).1, by rw [hρ2U k (hbU k hkB).1, hfx]⟩
    · exact ⟨.inr ⟨h1, h2⟩, hρ2n k ⟨h1, h2⟩⟩
  refine ⟨v, r', _, ρ2, U2, rfl, ⟨fun k o hk => ?_, fun k hk => ?_, fun k k' g o n o' n' h1 h2 => ?_, hr1.os.trans hr.os, hr1.tape.trans hr.tape, hr1.output.trans hr.output, Nat.le_trans hr.size hsz,
    fun g hg he hv => ?_, hr.okl, fun g ho => ?_, fun b l hb2 => ?_⟩, hv1.rnNa hSo hna r' hr', fun x u hx => hx.mono hok2 hokw (fun k hk => .inl hk) hlater, fun b hb2 => ?_, hQ⟩
  · rw [get_append, get_obsFrom] at hk
    by_cases hin : nm ≤ k ∧ k < nm + es.length
    · have hi : k - nm < es'.length := by omega
      rw [if_pos hin.1, List.getElem?_eq_getElem hi] at hk
      cases hk
      obtain ⟨x, hx1, hxn, hx2⟩ := he (k - nm) _ (List.getElem?_eq_getElem hi)
      refine ⟨.inr hin, ?_⟩
      rw [hρ2n k hin]
      have hgt : get (outs bs' es) (4 + (k - nm)) = some x := get_outs_exp (by omega) hx1
      exact (hr1.hp _ _ hgt).2.rnNa hSo hxn hx2
    · have hno : (if nm ≤ k then es'[k - nm]? else none) = none := by
        split
        · exact List.getElem?_eq_none (by omega)
        · rfl
      rw [hno] at hk
      simp only [get_append] at hk
      cases hbx : get (boxesAt B cs') k with
      | some o' =>
        rw [hbx] at hk; cases hk
        obtain ⟨i, c2, h1, h2, rfl⟩ := get_boxesAt B cs' k _ hbx
        have hkB := List.mem_of_getElem? h1
        refine ⟨.inl (hbU k hkB).1, ?_⟩
        obtain ⟨x, hx1, hxn, hx2⟩ := hb' i c2 h2
        have hfx := (hr1.fix i (ρ k) (by show (B[i]?).map ρ = _; rw [h1]; rfl)).1
        rw [hρ2U k (hbU k hkB).1, ← hfx]
        exact (hr1.hp i _ (get_outs_box hx1)).2.rnNa hSo (fun c hc => by
          obtain ⟨j, hj⟩ := List.mem_iff_getElem?.1 hc
          exact naL_get _ hxn j c hj) (by simp only [rvO]; exact hx2)
      | none =>
        rw [hbx] at hk
        simp only at hk
        obtain ⟨hUk, ho⟩ := hr.hp k o hk
        refine ⟨.inl hUk, ?_⟩
        rw [hρ2U k hUk]
        refine ObR.mono hok2 hokw (fun k hk => .inl hk) hlater (fun g o n hl => hheap g (hold k g o n hl) (fun b hbB o' n' hb2 => ?_)) ho
        have := hr.inj k b g o n o' n' hl hb2
        subst this
        exact get_boxesAt_none B cs' k hbx hcl'.symm hbB
  · rw [get_append, get_obsFrom] at hk
    have hin : ¬ (nm ≤ k ∧ k < nm + es.length) := fun hh => by
      rw [if_pos hh.1, List.getElem?_eq_getElem (show k - nm < es'.length by omega)] at hk
      cases hk
    have hno : (if nm ≤ k then es'[k - nm]? else none) = none := by
      split
      · exact List.getElem?_eq_none (by omega)
      · rfl
    rw [hno] at hk
    simp only [get_append] at hk
    show (if _ then _ else _) = _
    rw [if_neg hin]
    cases hbx : get (boxesAt B cs') k with
    | some o' => rw [hbx] at hk; cases hk
    | none =>
      rw [hbx] at hk
      simp only at hk
      exact hr.hd k hk
  · rcases hcase k g o n h1 with ⟨i, rfl, hi, hl⟩ | hl <;> rcases hcase k' g o' n' h2 with ⟨i', rfl, hi', hl'⟩ | hl'
    · have := hr1.inj _ _ g o n o' n' hl hl'
      omega
    · have := (hoff i g o n hi hl).1
      have := hold _ g o' n' hl'; omega
    · have := (hoff i' g o' n' hi' hl').1
      have := hold _ g o n hl; omega
    · exact hr.inj _ _ g o n o' n' hl hl'
  · have hg' : g < w.heap.size := Nat.lt_of_lt_of_le hg hr.size
    rw [← hr.old g hg he hv]
    have key : ∀ b o n, ρ b ≠ .at g o n := fun b o n hl => by
      rcases (hr.ownl g ⟨b, o, n, hl⟩).1 with h1 | h1 | h1
      · exact he h1
      · exact hv h1
      · omega
    exact hheap g hg' (fun b _ => key b)
  · obtain ⟨k, o, n, hk⟩ := ho
    rcases hcase k g o n hk with ⟨i, rfl, hi, hl⟩ | hl
    · have h1 := hoff i g o n hi hl
      exact ⟨.inr (.inr (Nat.le_trans hr.size h1.1)), h1.2⟩
    · exact ⟨(hr.ownl g ⟨k, o, n, hl⟩).1, by have := hold k g o n hl; omega⟩
  · obtain ⟨h1, h2, cs0, h3⟩ := hr.fix b l hb2
    refine ⟨by rw [hρ2U b h2]; exact h1, .inl h2, ?_⟩
    have hin : ¬ (nm ≤ b ∧ b < nm + es.length) := fun hh => hfr b h2 ⟨hh.1, by omega⟩
    have hno : (if nm ≤ b then es'[b - nm]? else none) = none := by
      split
      · exact List.getElem?_eq_none (by omega)
      · rfl
    rw [get_append, get_obsFrom, hno]
    simp only [get_append]
    cases hbx : get (boxesAt B cs') b with
    | some o' =>
      obtain ⟨i, c2, _, _, rfl⟩ := get_boxesAt B cs' b _ hbx
      exact ⟨c2, rfl⟩
    | none =>
      exact ⟨cs0, h3⟩
  · rcases hb2 with h1 | h1
    · exact .inl h1
    · exact .inr ⟨h1.1, by omega⟩
end
end Go.Eng

namespace Go.Eng
open Go
end Go.Eng
