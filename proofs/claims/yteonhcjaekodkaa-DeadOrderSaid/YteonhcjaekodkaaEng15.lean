/-
  The engine, part 15: the rules of a call.
  No condition: definitions and lemmas.
-/
import Derived.Test.YteonhcjaekodkaaEng14
set_option linter.all false
namespace Go.Eng
open Go

def boxesR (h : List (Nat × Ob)) (A : List Nat) : List Nat → List (List AV) → Prop
  | [], [] => True
  | b :: B, cs :: bs => (match get h b with
    | some (.box cs') => argsR A cs cs'
    | _ => False) ∧ boxesR h A B bs
  | _, _ => False

def argsLL (A : List Nat) : List (List AV) → List (List AV) → Prop
  | [], [] => True
  | x :: l, y :: l' => argsR A x y ∧ argsLL A l l'
  | _, _ => False

theorem argsLL_get {A : List Nat} : ∀ (xs ys : List (List AV)), argsLL A xs ys → xs.length = ys.length ∧ ∀ (i : Nat) (y : List AV), ys[i]? = some y → ∃ x, xs[i]? = some x ∧ argsR A x y
  | [], [], _ => ⟨rfl, fun i b h => by simp at h⟩
  | x :: xs, y :: ys, h => by
    simp only [argsLL] at h
    obtain ⟨h1, h2⟩ := argsLL_get xs ys h.2
    refine ⟨by simp [h1], fun i c hc => ?_⟩
    cases i with
    | zero => simp at hc; subst hc; exact ⟨x, rfl, h.1⟩
    | succ i => simpa using h2 i c (by simpa using hc)
  | [], _ :: _, h => by simp [argsLL] at h
  | _ :: _, [], h => by simp [argsLL] at h

def pureLL : List (List AV) → Bool
  | [] => true
  | cs :: l => pureL cs && pureLL l

theorem pureLL_get : ∀ (l : List (List AV)), pureLL l = true → ∀ (i : Nat) (cs : List AV), l[i]? = some cs → pureL cs = true
  | [], _, i, c, h => by simp at h
  | x :: cs, hh, 0, c, h => by simp only [pureLL, Bool.and_eq_true] at hh; simp at h; subst h; exact hh.1
  | x :: cs, hh, i + 1, c, h => by simp only [pureLL, Bool.and_eq_true] at hh; exact pureLL_get cs hh.2 i c (by simpa using h)

theorem boxesR_get {h : List (Nat × Ob)} {A : List Nat} : ∀ (B : List Nat) (bs : List (List AV)), boxesR h A B bs → B.length = bs.length ∧ ∀ (i b : Nat), B[i]? = some b → ∃ cs cs', bs[i]? = some cs ∧ get h b = some (.box cs') ∧ argsR A cs cs'
  | [], [], _ => ⟨rfl, fun i b h => by simp at h⟩
  | b :: B, cs :: bs, h => by
    simp only [boxesR] at h
    obtain ⟨h1, h2⟩ := boxesR_get B bs h.2
    refine ⟨by simp [h1], fun i c hc => ?_⟩
    cases i with
    | zero =>
      simp at hc; subst hc
      obtain ⟨h3, _⟩ := h
      split at h3
      · rename_i cs' hg; exact ⟨cs, cs', rfl, hg, h3⟩
      · exact h3.elim
    | succ i => simpa using h2 i c (by simpa using hc)
  | [], _ :: _, h => by simp [boxesR] at h
  | _ :: _, [], h => by simp [boxesR] at h

section
variable {P : Program} {f : FuncId} {xs ys : List AV} {bs bs' : List (List AV)} {r : AV} {es : List Ob} {nm : Nat} {h : List (Nat × Ob)} {B : List Nat}

def atB (ρ : Nat → Loc) (B : List Nat) (i : Nat) : Loc := match B[i]? with
  | some b => ρ b
  | none => .dead

/-- A call with pure arguments and boxes. -/
theorem Fn.callD (hF : Fn P f xs bs r bs' es) (nm : Nat) (B : List Nat) (cs' : List (List AV)) (ha : argsR B xs ys) (hb : boxesR h B B bs) (hB4 : B.length ≤ 4) (hnd : B.Nodup) (hlen : bs'.length = B.length) (hp : argsLL B bs' cs')
    (hes : es.all rowOk = true) (hm : es.length ≤ 8) (hx : expA es.length r = true) :
    CallD P nm f ys h ⟨sh nm r, obsFrom nm es ++ boxesAt B cs', B⟩ := by
  intro h' hh' Q hQ
  refine ⟨hF.1, fun C ρ U w vals hr hfr hvl => ?_⟩
  obtain ⟨hl, hb'⟩ := boxesR_get B bs hb
  have hbx : ∀ (i b : Nat), B[i]? = some b → ∃ cs cs', bs[i]? = some cs ∧ get h' b = some (.box cs') ∧ argsR B cs cs' := fun i b hib => by
    obtain ⟨cs, cs', h1, h2, h3⟩ := hb' i b hib
    exact ⟨cs, cs', h1, by rw [hh' b (List.mem_of_getElem? hib)]; exact h2, h3⟩
  let C' : Ctx := ⟨w, okc C ρ w, (fun g => ∃ b ∈ B, ∃ o n, ρ b = Loc.at g o n), (fun i => (B[i]?).map ρ), 0, (fun g hg => by
      obtain ⟨b, hbB, o, n, hl⟩ := hg
      obtain ⟨i, hi⟩ := List.mem_iff_getElem?.1 hbB
      exact ⟨i, o, n, by simp [hi, hl]⟩), (fun i l hl => by
      rcases Nat.lt_or_ge i B.length with h1 | h1
      · omega
      · simp [List.getElem?_eq_none h1] at hl)⟩
  have hbl : ∀ (i b : Nat), B[i]? = some b → atB ρ B i = ρ b := fun i b hib => by simp [atB, hib]
  have hown : ∀ g, Owned (atB ρ B) g → ∃ b ∈ B, ∃ o n, ρ b = .at g o n := fun g ⟨i, o, n, hi⟩ => by
    unfold atB at hi
    split at hi
    · rename_i b hib; exact ⟨b, List.mem_of_getElem? hib, o, n, hi⟩
    · cases hi
  have hok : ∀ g, okc C ρ w g → okc C' (atB ρ B) w g := fun g hg => ⟨.inl hg, hg.2.1, fun ho => by
    obtain ⟨b, _, o, n, hb⟩ := hown g ho
    exact hg.2.2 ⟨b, o, n, hb⟩⟩
  have hpure : ∀ {x : AV} {u : Value}, x.pure = true → VR w (okc C ρ w) ρ U x u → VP w (okc C' (atB ρ B) w) x u := fun hx hv => (VP_of_pure hv hx).mono hok (fun _ _ => rfl)
  have hr0 : HR C' (atB ρ B) (fun i => i < B.length) (boxesFrom 0 bs) w := by
    refine ⟨fun i o hi => ?_, fun i hi => ?_, fun i i' g o n o' n' h1 h2 => ?_, rfl, rfl, rfl, Nat.le_refl _, fun g _ _ => rfl, fun g hg => ⟨hg.2.1, fun ⟨b, _, o, n, hb⟩ => hg.2.2 ⟨b, o, n, hb⟩⟩,
      fun g ho => ?_, fun i l hi => ?_⟩
    · simp only [boxesFrom, get_obsFrom, Nat.zero_le, if_true, Nat.sub_zero, List.getElem?_map] at hi
      have hlt : i < B.length := by
        rcases Nat.lt_or_ge i B.length with h1 | h1
        · exact h1
        · rw [List.getElem?_eq_none (by omega)] at hi; cases hi
      refine ⟨hlt, ?_⟩
      have hib : B[i]? = some B[i] := List.getElem?_eq_getElem hlt
      obtain ⟨cs, cs1, h1, h2, h3⟩ := hbx i _ hib
      rw [h1] at hi
      cases hi
      rw [hbl i _ hib]
      obtain ⟨_, g, o, n, e, cells, h4, h5, h6, h7, h8⟩ := hr.hp _ _ h2
      obtain ⟨hal, hag⟩ := argsR_get cs cs1 h3
      refine ⟨g, o, n, e, cells, h4, h5, h6, by omega, fun j c hj => ?_⟩
      obtain ⟨y, hy, hxy⟩ := hag j c hj
      obtain ⟨u, hu, hv⟩ := h8 j y hy
      refine ⟨u, hu, ?_⟩
      rcases hxy with ⟨k, j', b, rfl, hk, rfl⟩ | ⟨rfl, hp⟩
      · obtain ⟨_, a, rfl, had⟩ := hv.ptr_inv
        have hlt : k < B.length := (List.getElem?_eq_some_iff.1 hk).1
        exact .ptr a hlt (by rw [hbl k b hk]; exact had)
      · exact .p (hpure hp hv)
    · simp only [boxesFrom, get_obsFrom, Nat.zero_le, if_true, Nat.sub_zero, List.getElem?_map] at hi
      have : B[i]? = none := by
        rcases Nat.lt_or_ge i B.length with h1 | h1
        · rw [List.getElem?_eq_getElem (show i < bs.length by omega)] at hi; cases hi
        · exact List.getElem?_eq_none h1
      simp [atB, this]
    · have key : ∀ i g o n, atB ρ B i = .at g o n → ∃ b, B[i]? = some b ∧ ρ b = .at g o n := fun i g o n hi => by
        unfold atB at hi
        split at hi
        · rename_i b hib; exact ⟨b, hib, hi⟩
        · cases hi
      obtain ⟨b, hib, hl1⟩ := key i g o n h1
      obtain ⟨b', hib', hl2⟩ := key i' g o' n' h2
      have e := hr.inj b b' g o n o' n' hl1 hl2
      subst e
      obtain ⟨p1, q1⟩ := List.getElem?_eq_some_iff.1 hib
      obtain ⟨p2, q2⟩ := List.getElem?_eq_some_iff.1 hib'
      exact (List.getElem_inj hnd).1 (q1.trans q2.symm)
    · obtain ⟨b, hbB, o, n, hb⟩ := hown g ho
      exact ⟨.inl ⟨b, hbB, o, n, hb⟩, (hr.ownl g ⟨b, o, n, hb⟩).2⟩
    · have hlt : i < B.length := by
        rcases Nat.lt_or_ge i B.length with h1 | h1
        · exact h1
        · simp [C', List.getElem?_eq_none h1] at hi
      have hib : B[i]? = some B[i] := List.getElem?_eq_getElem hlt
      obtain ⟨cs, cs1, h1, h2, h3⟩ := hbx i _ hib
      refine ⟨?_, hlt, cs, ?_⟩
      · rw [hbl i _ hib]
        simp only [C', hib, Option.map_some, Option.some.injEq] at hi
        exact hi
      · simp [boxesFrom, get_obsFrom, h1]
  obtain ⟨hal, hag⟩ := argsR_get xs ys ha
  have hvl0 : VL w (okc C' (atB ρ B) w) (atB ρ B) (fun i => i < B.length) xs vals := by
    refine ⟨by rw [hal]; exact hvl.1, fun i x u hi hu => ?_⟩
    obtain ⟨y, hy, hxy⟩ := hag i x hi
    have hv := hvl.2 i y u hy hu
    rcases hxy with ⟨k, j, b, rfl, hk, rfl⟩ | ⟨rfl, hp⟩
    · obtain ⟨_, a, rfl, had⟩ := hv.ptr_inv
      have hlt : k < B.length := (List.getElem?_eq_some_iff.1 hk).1
      exact .ptr a hlt (by rw [hbl k b hk]; exact had)
    · exact .p (hpure hp hv)
  refine (hF.2 C' (atB ρ B) (fun i => i < B.length) w vals hr0 (fun b hb => by omega) hvl0).mono fun e w' hpost => ?_
  obtain ⟨v, ρ1, U1, rfl, hr1, hv1⟩ := hpost
  have hlift : ∀ g, okc C' ρ1 w' g → okc C (backLoc ρ ρ1 nm es.length) w' g := fun g hg => by
    have hno : ¬ ∃ i o n, i < es.length ∧ ρ1 (4 + i) = .at g o n := fun ⟨i, o, n, _, hi⟩ => hg.2.2 ⟨_, o, n, hi⟩
    have hcase : Owned (backLoc ρ ρ1 nm es.length) g → Owned ρ g := fun ⟨k, o, n, hk⟩ => by
      unfold backLoc at hk
      split at hk
      · exact absurd ⟨k - nm, o, n, by omega, hk⟩ hno
      · exact ⟨k, o, n, hk⟩
    refine ⟨?_, hg.2.1, fun ho => ?_⟩
    · rcases hg.1 with h1 | h1
      · exact h1.1
      · right; have := hr.size; exact Nat.le_trans this h1
    · have ho' := hcase ho
      rcases hg.1 with h1 | h1
      · exact h1.2.2 ho'
      · have := (hr.ownl g ho').2
        have h1' : w.heap.size ≤ g := h1
        omega
  obtain ⟨hR, hkeep⟩ := back (C' := C') (nm := nm) hr rfl (fun g => Iff.rfl) (fun i => rfl) hr1 (fun b hb => by
    obtain ⟨i, hi⟩ := List.mem_iff_getElem?.1 hb
    obtain ⟨_, cs, _, h2, _⟩ := hbx i b hi
    exact ⟨cs, h2⟩) hlen hB4 hes hm (argsLL_get bs' cs' hp).1 (argsLL_get bs' cs' hp).2 hfr (.inl hlift)
  refine ⟨v, sh nm r, _, backLoc ρ ρ1 nm es.length, backU U nm es.length, rfl, hR, ?_, hkeep, fun b hb => ?_, ?_⟩
  · refine VR.sh hlift (fun i hi => ?_) (fun i hi => .inr ⟨by omega, by omega⟩) hv1 hx
    unfold backLoc
    rw [if_pos ⟨by omega, by omega⟩]
    congr 2; omega
  · rcases hb with hb | hb
    · exact .inl hb
    · exact .inr ⟨hb.1, by omega⟩
  · simpa [List.append_assoc] using hQ

theorem CallD.use {ys : List AV} {x : Rec} (hc : CallD P nm f ys h x) {Q : AV → List (Nat × Ob) → Prop} (hQ : Q x.val (x.upd ++ h)) : wpCall P nm f ys h Q := hc h (fun _ _ => rfl) Q hQ

mutual
/-- All names in a value. -/
def deep : AV → List Nat
  | .own b _ _ _ => [b]
  | .ptr b _ => [b]
  | .rp b _ _ _ => [b]
  | .mp b => [b]
  | .agg cs => deepL cs
  | .tup cs => deepL cs
  | .fn _ cs => deepL cs
  | _ => []
def deepL : List AV → List Nat
  | [] => []
  | c :: cs => deep c ++ deepL cs
end

mutual
theorem rv_congr {h h' : List (Nat × Ob)} : ∀ (x y : AV), (∀ b ∈ deep y, get h' b = get h b) → rv h [] [] x y → rv h' [] [] x y
  | .own .., y, _, hx => by unfold rv at hx ⊢; exact hx
  | .ptr .., y, _, hx => by unfold rv at hx ⊢; exact hx
  | .rp .., y, _, hx => by unfold rv at hx ⊢; exact hx
  | .mp .., y, _, hx => by unfold rv at hx ⊢; exact hx
  | .v _, y, _, hx => by unfold rv at hx ⊢; exact hx
  | .sl sz ys, y, hh, hx => by
    cases y with
    | own b sz' off len =>
      simp only [deep, List.mem_singleton, forall_eq] at hh
      simp only [rv, hh] at hx ⊢; exact hx
    | v a =>
      unfold rv at hx ⊢
      split at hx
      · rename_i e; cases e
      · rename_i e; cases e; exact hx
      · rename_i e; cases e
      · exact hx.elim
    | _ => simp only [rv] at hx ⊢ <;> exact hx
  | .pel cs j, y, hh, hx => by
    cases y with
    | rp b sz i j' =>
      simp only [deep, List.mem_singleton, forall_eq] at hh
      simp only [rv, hh] at hx ⊢; exact hx
    | _ => simp only [rv] at hx ⊢ <;> exact hx
  | .agg ys, y, hh, hx => by
    cases y <;> unfold rv at hx ⊢ <;> try exact hx
    exact rvL_congr ys _ (by simpa only [deep] using hh) hx
  | .tup ys, y, hh, hx => by
    cases y <;> unfold rv at hx ⊢ <;> try exact hx
    exact rvL_congr ys _ (by simpa only [deep] using hh) hx
  | .fn f ys, y, hh, hx => by
    cases y <;> unfold rv at hx ⊢ <;> try exact hx
    exact ⟨hx.1, rvL_congr ys _ (by simpa only [deep] using hh) hx.2⟩
theorem rvL_congr {h h' : List (Nat × Ob)} : ∀ (xs ys : List AV), (∀ b ∈ deepL ys, get h' b = get h b) → rvL h [] [] xs ys → rvL h' [] [] xs ys
  | [], [], _, _ => by simp only [rvL]
  | x :: xs, y :: ys, hh, hx => by
    simp only [rvL] at hx ⊢
    simp only [deepL, List.mem_append] at hh
    exact ⟨rv_congr x y (fun b hb => hh b (.inl hb)) hx.1, rvL_congr xs ys (fun b hb => hh b (.inr hb)) hx.2⟩
  | [], _ :: _, _, hx => by simp only [rvL] at hx
  | _ :: _, [], _, hx => by simp only [rvL] at hx
end

theorem rvL_vl {C : Ctx} {ρ : Nat → Loc} {U : Nat → Prop} {w : World} {vals : Array Value} (hr : HR C ρ U h w) (hv : VL w (okc C ρ w) ρ U ys vals) (hx : rvL h [] [] xs ys) :
    VL w (okc C (newLoc ρ [] []) w) (newLoc ρ [] []) (newU [] []) xs vals := by
  have hl := rvL_len _ _ hx
  refine ⟨by rw [hl]; exact hv.1, fun i x u hi hu => ?_⟩
  obtain ⟨y, hy, hxy⟩ := rvL_get _ _ hx i x hi
  exact rv_vr hr (hv.2 i y u hy hu) x hxy

/-- A call whose arguments hold rows: the callee reads them, and what it gives back shares nothing with them. -/
theorem Fn.callS (hF : Fn P f xs [] r [] es) (nm : Nat) (ha : rvL h [] [] xs ys) (hes : es.all rowOk = true) (hna : ∀ o ∈ es, rowNa o) (hm : es.length ≤ 8) (hx : expA es.length r = true) (hr0 : na r = true) :
    CallD P nm f ys h ⟨sh nm r, obsFrom nm es, deepL ys⟩ := by
  intro h' hh' Q hQ
  refine ⟨hF.1, fun C ρ U w vals hr hfr hvl => ?_⟩
  have ha' := rvL_congr xs ys hh' ha
  have hd : ∀ g, ¬ Owned (newLoc ρ [] []) g := fun g ⟨k, o, n, hk⟩ => by simp [newLoc, get] at hk
  let C' : Ctx := ⟨w, okc C (newLoc ρ [] []) w, (fun _ => False), (fun _ => none), 0, (fun g hg => hg.elim), (fun i l hl => by cases hl)⟩
  have hok : ∀ g, okc C (newLoc ρ [] []) w g → okc C' (newLoc ρ [] []) w g := fun g hg => ⟨.inl hg, hg.2.1, hg.2.2⟩
  have hrc : HR C' (newLoc ρ [] []) (newU [] []) (boxesFrom 0 []) w := by
    refine ⟨fun i o hi => by simp [boxesFrom, obsFrom, get] at hi, fun i _ => by simp [newLoc, get], fun i i' g o n o' n' h1 _ => absurd ⟨i, o, n, h1⟩ (hd g), rfl, rfl, rfl, Nat.le_refl _,
      fun g _ _ => rfl, fun g hg => ⟨hg.2.1, fun h => h.elim⟩, fun g ho => absurd ho (hd g), fun i l hi => by cases hi⟩
  have hvl0 := rvL_vl hr hvl ha'
  have hvl1 : VL w (okc C' (newLoc ρ [] []) w) (newLoc ρ [] []) (newU [] []) xs vals := hvl0.mono hok (fun _ _ => rfl) (fun _ h => h) (fun _ _ => .inl rfl)
  refine (hF.2 C' _ _ w vals hrc (fun b hb => by simp [newU] at hb) hvl1).mono fun e w' hpost => ?_
  obtain ⟨v, ρ1, U1, rfl, hr1, hv1⟩ := hpost
  obtain ⟨hR, hkeep⟩ := back (C' := C') (B := []) (nm := nm) hr rfl (fun g => by simp [C']) (fun i => by simp [C']) hr1 (fun b hb => by simp at hb) rfl (by simp) hes hm (cs := []) rfl (fun i cs h => by simp at h) hfr (.inr ⟨rfl, hna⟩)
  refine ⟨v, sh nm r, _, backLoc ρ ρ1 nm es.length, backU U nm es.length, rfl, hR, ?_, hkeep, fun b hb => ?_, ?_⟩
  · refine VR.sh_na (fun i hi => ?_) (fun i hi => .inr ⟨by omega, by omega⟩) hv1 hx hr0
    unfold backLoc
    rw [if_pos ⟨by omega, by omega⟩]
    congr 2; omega
  · rcases hb with hb | hb
    · exact .inl hb
    · exact .inr ⟨hb.1, by omega⟩
  · simpa [boxesAt] using hQ

mutual
theorem rv_pure {S : List (Nat × Nat)} {N : List Nat} : ∀ (x : AV), x.pure = true → rv h S N x x
  | .v a, _ => by simp only [rv]
  | .sl sz xs, _ => by simp only [rv, and_self]
  | .pel cs j, _ => by simp only [rv, and_self]
  | .agg cs, hx => by simp only [rv]; exact rvL_pure cs (by simpa only [AV.pure] using hx)
  | .tup cs, hx => by simp only [rv]; exact rvL_pure cs (by simpa only [AV.pure] using hx)
  | .fn f cs, hx => by simp only [rv, true_and]; exact rvL_pure cs (by simpa only [AV.pure] using hx)
  | .own .., hx => by simp [AV.pure] at hx
  | .ptr .., hx => by simp [AV.pure] at hx
  | .rp .., hx => by simp [AV.pure] at hx
  | .mp .., hx => by simp [AV.pure] at hx
theorem rvL_pure {S : List (Nat × Nat)} {N : List Nat} : ∀ (xs : List AV), pureL xs = true → rvL h S N xs xs
  | [], _ => by simp only [rvL]
  | x :: xs, hx => by
    simp only [pureL, Bool.and_eq_true] at hx
    simp only [rvL]
    exact ⟨rv_pure x hx.1, rvL_pure xs hx.2⟩
end

theorem rv_eq {S : List (Nat × Nat)} {N : List Nat} {x y : AV} (he : x = y) (hp : y.pure = true) : rv h S N x y := he ▸ rv_pure _ (he ▸ hp)

/-- The end of a function that hands out no row and turns no box. -/
theorem Fin.mk0 {res : List SRes} {r : AV} {t : List (Nat × AV)} (xs : List AV) (h1 : retV t h res = some xs) (h2 : okS h [] [] [] = true) (h3 : rv h [] [] r (retOne xs)) : Fin res r [] [] t h :=
  ⟨[], [], xs, h1, h2, by simp only [rvH], by simp only [rvN], h3⟩
theorem Fin.eq0 {res : List SRes} {r : AV} {t : List (Nat × AV)} (xs : List AV) (h1 : retV t h res = some xs) (h2 : okS h [] [] [] = true) (h3 : (retOne xs).pure = true) (h4 : r = retOne xs) : Fin res r [] [] t h :=
  Fin.mk0 xs h1 h2 (rv_eq h4 h3)

theorem sh_pure (nm : Nat) : ∀ (x : AV), x.pure = true → sh nm x = x := by
  intro x
  refine AV.rec (motive_1 := fun x => x.pure = true → sh nm x = x) (motive_2 := fun xs => pureL xs = true → shL nm xs = xs) (motive_3 := fun _ => True)
    ?_ ?_ ?_ ?_ ?_ ?_ ?_ ?_ ?_ ?_ ?_ ?_ ?_ ?_ x
  · intro v _; simp only [sh]
  · intro cs ih hx; simp only [sh]; rw [ih (by simpa only [AV.pure] using hx)]
  · intro cs ih hx; simp only [sh]; rw [ih (by simpa only [AV.pure] using hx)]
  · intro sz xs _ _; simp only [sh]
  · intro b sz off len hx; simp [AV.pure] at hx
  · intro b j hx; simp [AV.pure] at hx
  · intro b sz k j hx; simp [AV.pure] at hx
  · intro cs j _ _; simp only [sh]
  · intro b hx; simp [AV.pure] at hx
  · intro f cs ih hx; simp only [sh]; rw [ih (by simpa only [AV.pure] using hx)]
  · intro _; simp only [shL]
  · intro c cs ih1 ih2 hx
    simp only [pureL, Bool.and_eq_true] at hx
    simp only [shL]; rw [ih1 hx.1, ih2 hx.2]
  · trivial
  · intros; trivial

mutual
theorem expA_pure {m : Nat} : ∀ (x : AV), x.pure = true → expA m x = true
  | .v a, _ => by simp only [expA]
  | .sl sz xs, _ => by simp only [expA]
  | .pel cs j, _ => by simp only [expA]
  | .agg cs, hx => by simp only [expA]; exact expL_pure cs (by simpa only [AV.pure] using hx)
  | .tup cs, hx => by simp only [expA]; exact expL_pure cs (by simpa only [AV.pure] using hx)
  | .fn f cs, hx => by simp only [expA]; exact expL_pure cs (by simpa only [AV.pure] using hx)
  | .own .., hx => by simp [AV.pure] at hx
  | .ptr .., hx => by simp [AV.pure] at hx
  | .rp .., hx => by simp [AV.pure] at hx
  | .mp .., hx => by simp [AV.pure] at hx
theorem expL_pure {m : Nat} : ∀ (xs : List AV), pureL xs = true → expL m xs = true
  | [], _ => by simp only [expL]
  | x :: xs, hx => by
    simp only [pureL, Bool.and_eq_true] at hx
    simp only [expL, Bool.and_eq_true]
    exact ⟨expA_pure x hx.1, expL_pure xs hx.2⟩
end

theorem argsR_pure {A : List Nat} : ∀ (xs : List AV), pureL xs = true → argsR A xs xs
  | [], _ => by simp only [argsR]
  | x :: xs, hx => by
    simp only [pureL, Bool.and_eq_true] at hx
    simp only [argsR]
    refine ⟨?_, argsR_pure xs hx.2⟩
    split
    · simp [AV.pure] at hx
    · exact ⟨rfl, hx.1⟩

theorem argsLL_pure {A : List Nat} : ∀ (l : List (List AV)), pureLL l = true → argsLL A l l
  | [], _ => by simp only [argsLL]
  | x :: xs, hx => by
    simp only [pureLL, Bool.and_eq_true] at hx
    simp only [argsLL]
    exact ⟨argsR_pure x hx.1, argsLL_pure xs hx.2⟩

/-- A call: pure arguments, a pure value. -/
theorem Fn.call0 (hF : Fn P f xs [] r [] []) (hp : pureL xs = true) (hr : r.pure = true) : CallD P nm f xs h ⟨r, [], []⟩ := by
  have := hF.callD (h := h) nm [] [] (argsR_pure xs hp) (by simp only [boxesR]) (by simp) (by simp) rfl (by simp only [argsLL]) rfl (by simp) (expA_pure r hr)
  rw [sh_pure nm r hr] at this
  exact this

/-- A call: arguments with rows, a pure value that shares nothing. -/
theorem Fn.callS0 (hF : Fn P f xs [] r [] []) (ha : rvL h [] [] xs ys) (hr : r.pure = true) (hn : na r = true) : CallD P nm f ys h ⟨r, [], deepL ys⟩ := by
  have := hF.callS (h := h) nm ha rfl (by simp) (by simp) (expA_pure r hr) hn
  rw [sh_pure nm r hr] at this
  exact this

theorem goCall0 {k : List It} {Q : Exit → St → Prop} {n n' : Nat} {t : List (Nat × AV)} {d : Option Nat} {l : List SOper} (hF : Fn P f xs [] r [] []) (hp : pureL xs = true) (hr : r.pure = true)
    (hk : go P (.ops (nm + 8) n' l :: k) Q n (putA t d r) h) : goCall P nm f xs d n' l k Q n t h := goCall_use (hF.call0 hp hr) hk
theorem goCallD0 {k : List It} {Q : Exit → St → Prop} {n n' : Nat} {t : List (Nat × AV)} {d : Option Nat} {l ops : List SOper} {acc : List Foot} (hF : Fn P f xs [] r [] []) (hp : pureL xs = true) (hr : r.pure = true)
    (hk : go P (.drw (nm + 8) n' l ops (([], []) :: acc) :: k) Q n (putA t d r) h) : goCallD P nm f xs d n' l ops acc k Q n t h := goCallD_use (hF.call0 hp hr) hk

/-- The end of a function that was handed one box. -/
theorem Fin.mk1 {res : List SRes} {r : AV} {t : List (Nat × AV)} {cs cs' : List AV} (xs : List AV) (h1 : retV t h res = some xs) (hb : get h 0 = some (.box cs)) (h2 : okS h [(0, 0)] [] [(0, .box cs')] = true)
    (h3 : rvL h [(0, 0)] [] cs' cs) (h4 : rv h [(0, 0)] [] r (retOne xs)) : Fin res r [cs'] [] t h := by
  have e : outs [cs'] [] = [(0, .box cs')] := rfl
  refine ⟨[(0, 0)], [], xs, h1, by rw [e]; exact h2, ?_, by simp only [rvN], h4⟩
  rw [e]
  simp only [rvH, get, if_true, hb, and_true, rvO]
  exact h3
theorem Fin.eq1 {res : List SRes} {r : AV} {t : List (Nat × AV)} {cs cs' : List AV} (xs : List AV) (h1 : retV t h res = some xs) (hb : get h 0 = some (.box cs)) (h2 : okS h [(0, 0)] [] [(0, .box cs)] = true)
    (h3 : (retOne xs).pure = true) (h4 : pureL cs = true) (h5 : cs' = cs) (h6 : r = retOne xs) : Fin res r [cs'] [] t h := by
  subst h5
  exact Fin.mk1 xs h1 hb h2 (rvL_pure _ h4) (rv_eq h6 h3)

/-- A call that hands over one box. -/
theorem goCall1 {k : List It} {Q : Exit → St → Prop} {n n' : Nat} {t : List (Nat × AV)} {d : Option Nat} {l : List SOper} {b : Nat} {cs cs' : List AV} (hF : Fn P f xs [cs] r [cs'] []) (ha : argsR [b] xs ys)
    (hb : get h b = some (.box cs)) (hp : pureL cs = true) (hp' : pureL cs' = true) (hr : r.pure = true) (hk : go P (.ops (nm + 8) n' l :: k) Q n (putA t d r) ((b, .box cs') :: h)) : goCall P nm f ys d n' l k Q n t h := by
  have := hF.callD (h := h) nm [b] [cs'] ha (by simp only [boxesR, and_true, hb]; exact argsR_pure cs hp) (by simp) (by simp) rfl (argsLL_pure [cs'] (by simp only [pureLL, hp', Bool.and_true])) rfl (by simp) (expA_pure r hr)
  rw [sh_pure nm r hr] at this
  exact goCall_use this hk
theorem goCallD1 {k : List It} {Q : Exit → St → Prop} {n n' : Nat} {t : List (Nat × AV)} {d : Option Nat} {l ops : List SOper} {acc : List Foot} {b : Nat} {cs cs' : List AV} (hF : Fn P f xs [cs] r [cs'] []) (ha : argsR [b] xs ys)
    (hb : get h b = some (.box cs)) (hp : pureL cs = true) (hp' : pureL cs' = true) (hr : r.pure = true) (hk : go P (.drw (nm + 8) n' l ops (([b], [b]) :: acc) :: k) Q n (putA t d r) ((b, .box cs') :: h)) :
    goCallD P nm f ys d n' l ops acc k Q n t h := by
  have := hF.callD (h := h) nm [b] [cs'] ha (by simp only [boxesR, and_true, hb]; exact argsR_pure cs hp) (by simp) (by simp) rfl (argsLL_pure [cs'] (by simp only [pureLL, hp', Bool.and_true])) rfl (by simp) (expA_pure r hr)
  rw [sh_pure nm r hr] at this
  exact goCallD_use this hk
end
end Go.Eng
