/-
  The engine, part 14: calls.
  No condition: definitions and lemmas.
-/
import Derived.Test.YteonhcjaekodkaaEng13
import Derived.Test.YteonhcjaekodkaaEng5
set_option linter.all false
namespace Go.Eng
open Go

def rowOk : Ob → Bool
  | .row _ _ _ => true
  | .box cs => pureL cs
  | _ => false
/-- The rows that share nothing. -/
def rowNa : Ob → Prop
  | .row _ _ xs => ∀ x ∈ xs, ∀ c ∈ x, na c = true
  | .box cs => ∀ c ∈ cs, na c = true
  | _ => False

theorem ObR.rowLift {w : World} {ok ok' : Nat → Prop} {ρ ρ' : Nat → Loc} {U U' : Nat → Prop} {l : Loc} {o : Ob} (hr : rowOk o = true) (hok : (∀ g, ok g → ok' g) ∨ rowNa o)
    (ho : ObR w ok ρ U l o) : ObR w ok' ρ' U' l o := by
  cases o with
  | row e sz xs =>
    rcases ho with ho | ⟨g, o, n, cells, h1, h2, h3, h4, h5, h6⟩
    · exact .inl ho
    · refine .inr ⟨g, o, n, cells, h1, h2, h3, h4, h5, fun k x j c hk hj => ?_⟩
      obtain ⟨u, hu, h1c, hv⟩ := h6 k x j c hk hj
      rcases hok with hok | hok
      · exact ⟨u, hu, h1c, hv.mono hok (fun _ _ => rfl)⟩
      · exact ⟨u, hu, h1c, hv.na (hok x (List.mem_of_getElem? hk) c (List.mem_of_getElem? hj))⟩
  | box cs =>
    obtain ⟨g, o, n, e, cells, h1, h2, h3, h4, h5⟩ := ho
    refine ⟨g, o, n, e, cells, h1, h2, h3, h4, fun j c hj => ?_⟩
    obtain ⟨u, hu, hv⟩ := h5 j c hj
    have hp := VP.of_pure_aux hv (pureL_get cs hr j c hj)
    rcases hok with hok | hok
    · exact ⟨u, hu, .p (hp.mono hok (fun _ _ => rfl))⟩
    · exact ⟨u, hu, .p (hp.na (hok c (List.mem_of_getElem? hj)))⟩
  | _ => simp [rowOk] at hr

/-- Arguments: pure, or a box of the list. -/
def argsR (B : List Nat) : List AV → List AV → Prop
  | [], [] => True
  | x :: l, y :: l' => (match x with
    | .ptr i j => match B[i]? with
      | some b => y = .ptr b j
      | none => False
    | x => x = y ∧ x.pure = true) ∧ argsR B l l'
  | _, _ => False

theorem argsR_get {B : List Nat} : ∀ (xs ys : List AV), argsR B xs ys → xs.length = ys.length ∧ ∀ (i : Nat) (x : AV), xs[i]? = some x → ∃ y, ys[i]? = some y ∧
    ((∃ k j b, x = .ptr k j ∧ B[k]? = some b ∧ y = .ptr b j) ∨ (x = y ∧ x.pure = true))
  | [], [], _ => ⟨rfl, fun i b h => by simp at h⟩
  | x :: xs, y :: ys, h => by
    simp only [argsR] at h
    obtain ⟨h1, h2⟩ := argsR_get xs ys h.2
    refine ⟨by simp [h1], fun i c hc => ?_⟩
    cases i with
    | zero =>
      simp at hc; subst hc
      refine ⟨y, rfl, ?_⟩
      obtain ⟨h3, _⟩ := h
      split at h3
      · rename_i k j
        split at h3
        · rename_i b hb; exact .inl ⟨k, j, b, rfl, hb, h3⟩
        · exact h3.elim
      · exact .inr h3
    | succ i => simpa using h2 i c (by simpa using hc)
  | [], _ :: _, h => by simp [argsR] at h
  | _ :: _, [], h => by simp [argsR] at h

section
variable {C C' : Ctx} {ρ ρ1 : Nat → Loc} {U U1 : Nat → Prop} {h : List (Nat × Ob)} {w w' : World} {B : List Nat} {bs' : List (List AV)} {es : List Ob} {nm : Nat}

def backLoc (ρ ρ1 : Nat → Loc) (nm m : Nat) (k : Nat) : Loc := if nm ≤ k ∧ k < nm + m then ρ1 (4 + (k - nm)) else ρ k
def backU (U : Nat → Prop) (nm m : Nat) (k : Nat) : Prop := U k ∨ (nm ≤ k ∧ k < nm + m)

theorem VP_of_pure {w : World} {ok : Nat → Prop} {ρ : Nat → Loc} {U : Nat → Prop} {x : AV} {u : Value} (h : VR w ok ρ U x u) : x.pure = true → VP w ok x u := VP.of_pure_aux h

/-- What a call gives back, at the caller. -/
theorem back (hr : HR C ρ U h w) (hw0 : C'.w0 = w) (hext : ∀ g, C'.ext g ↔ ∃ b ∈ B, ∃ o n, ρ b = .at g o n) (hloc : ∀ i, C'.loc i = (B[i]?).map ρ)
    (hr' : HR C' ρ1 U1 (outs bs' es) w') (hB : ∀ b ∈ B, ∃ cs, get h b = some (.box cs)) (hlen : bs'.length = B.length) (hB4 : B.length ≤ 4) (hes : es.all rowOk = true)
    (hm : es.length ≤ 8) {cs : List (List AV)} (hlc : bs'.length = cs.length) (hrel : ∀ (i : Nat) (c : List AV), cs[i]? = some c → ∃ x, bs'[i]? = some x ∧ argsR B x c) (hfr : ∀ b, U b → ¬ (nm ≤ b ∧ b < nm + 8))
    (hlift : (∀ g, okc C' ρ1 w' g → okc C (backLoc ρ ρ1 nm es.length) w' g) ∨ (bs' = [] ∧ ∀ o ∈ es, rowNa o)) :
    HR C (backLoc ρ ρ1 nm es.length) (backU U nm es.length) (obsFrom nm es ++ (boxesAt B cs ++ h)) w' ∧
      ∀ x u, VR w (okc C ρ w) ρ U x u → VR w' (okc C (backLoc ρ ρ1 nm es.length) w') (backLoc ρ ρ1 nm es.length) (backU U nm es.length) x u := by
  -- places
  have hUρ : ∀ k, U k → backLoc ρ ρ1 nm es.length k = ρ k := fun k hk => by
    unfold backLoc
    rw [if_neg (fun hh => hfr k hk ⟨hh.1, by omega⟩)]
  have hUat : ∀ k g o n, ρ k = .at g o n → U k := fun k g o n hk => by
    apply Classical.byContradiction
    intro hn
    rw [hr.deadU hn] at hk; cases hk
  have hcase : ∀ k g o n, backLoc ρ ρ1 nm es.length k = .at g o n → (∃ i, k = nm + i ∧ i < es.length ∧ ρ1 (4 + i) = .at g o n) ∨ ρ k = .at g o n := fun k g o n hk => by
    unfold backLoc at hk
    split at hk
    · rename_i hh
      exact .inl ⟨k - nm, by omega, by omega, hk⟩
    · exact .inr hk
  have hoff : ∀ i g o n, i < es.length → ρ1 (4 + i) = .at g o n → w.heap.size ≤ g ∧ g < w'.heap.size := fun i g o n hi hl => by
    obtain ⟨h1, h2⟩ := hr'.ownl g ⟨_, o, n, hl⟩
    refine ⟨?_, h2⟩
    rcases h1 with h1 | h1
    · obtain ⟨b, o', n', hb⟩ := C'.extl g h1
      obtain ⟨h3, _, _⟩ := hr'.fix b _ hb
      have := hr'.inj (4 + i) b g o n o' n' hl h3
      have := C'.locb b _ hb
      omega
    · rw [hw0] at h1; exact h1
  have hold : ∀ k g o n, ρ k = .at g o n → g < w.heap.size := fun k g o n hl => (hr.ownl g ⟨k, o, n, hl⟩).2
  have hsz : w.heap.size ≤ w'.heap.size := by have := hr'.size; rw [hw0] at this; exact this
  have hheap : ∀ g, g < w.heap.size → (∀ b ∈ B, ∀ o n, ρ b ≠ .at g o n) → w'.heap[g]? = w.heap[g]? := fun g hg hb => by
    have := hr'.old g (by rw [hw0]; exact hg) (fun he => by
      obtain ⟨b, hbB, o, n, hl⟩ := (hext g).1 he
      exact hb b hbB o n hl)
    rw [hw0] at this; exact this
  have hown : ∀ g, Owned (backLoc ρ ρ1 nm es.length) g → Owned ρ g ∨ (w.heap.size ≤ g ∧ g < w'.heap.size ∧ ∃ i o n, i < es.length ∧ ρ1 (4 + i) = .at g o n) := fun g ⟨k, o, n, hk⟩ => by
    rcases hcase k g o n hk with ⟨i, rfl, hi, hl⟩ | hl
    · have := hoff i g o n hi hl
      exact .inr ⟨this.1, this.2, i, o, n, hi, hl⟩
    · exact .inl ⟨k, o, n, hl⟩
  have hok : ∀ g, okc C ρ w g → okc C (backLoc ρ ρ1 nm es.length) w' g := fun g hg => ⟨hg.1, by have := hg.2.1; omega, fun ho => by
    rcases hown g ho with ho | ho
    · exact hg.2.2 ho
    · have := hg.2.1; omega⟩
  have hokw : ∀ g, okc C ρ w g → w'.heap[g]? = w.heap[g]? := fun g hg => hheap g hg.2.1 fun b _ o n hl => hg.2.2 ⟨b, o, n, hl⟩
  have hlater : Later U ρ (backLoc ρ ρ1 nm es.length) := fun k hk => .inl (hUρ k hk)
  have hUm : ∀ k, U k → backU U nm es.length k := fun k hk => .inl hk
  refine ⟨⟨fun k o hk => ?_, fun k hk => ?_, fun k k' g o n o' n' h1 h2 => ?_, hr'.os.trans (by rw [hw0]; exact hr.os), hr'.tape.trans (by rw [hw0]; exact hr.tape),
    hr'.output.trans (by rw [hw0]; exact hr.output), Nat.le_trans hr.size hsz, fun g hg he => ?_, hr.okl, fun g ho => ?_, fun b l hb => ?_⟩,
    fun x u hx => hx.mono hok hokw hUm hlater⟩
  · -- what is known of each name
    rw [get_append, get_obsFrom] at hk
    by_cases hin : nm ≤ k ∧ k < nm + es.length
    · have hi : k - nm < es.length := by omega
      rw [if_pos hin.1, List.getElem?_eq_getElem hi] at hk
      cases hk
      refine ⟨.inr hin, ?_⟩
      have e : backLoc ρ ρ1 nm es.length k = ρ1 (4 + (k - nm)) := by unfold backLoc; rw [if_pos hin]
      rw [e]
      have hg : get (outs bs' es) (4 + (k - nm)) = some es[k - nm] := get_outs_exp (by omega) (List.getElem?_eq_getElem hi)
      obtain ⟨_, ho⟩ := hr'.hp _ _ hg
      have hro := List.all_eq_true.1 hes es[k - nm] (List.getElem_mem hi)
      refine ObR.rowLift hro ?_ ho
      rcases hlift with hlift | hlift
      · exact .inl hlift
      · exact .inr (hlift.2 _ (List.getElem_mem hi))
    · have hno : (if nm ≤ k then es[k - nm]? else none) = none := by
        split
        · exact List.getElem?_eq_none (by omega)
        · rfl
      rw [hno] at hk
      simp only [get_append] at hk
      have e : backLoc ρ ρ1 nm es.length k = ρ k := by unfold backLoc; rw [if_neg hin]
      rw [e]
      cases hbx : get (boxesAt B cs) k with
      | some o' =>
        rw [hbx] at hk; cases hk
        obtain ⟨i, c2, h1, h2, rfl⟩ := get_boxesAt B cs k _ hbx
        obtain ⟨cs0, hb0⟩ := hB k (List.mem_of_getElem? h1)
        have hUk := (hr.hp k _ hb0).1
        refine ⟨.inl hUk, ?_⟩
        obtain ⟨c1, hc1, hrl⟩ := hrel i c2 h2
        have hg : get (outs bs' es) i = some (.box c1) := get_outs_box hc1
        obtain ⟨_, ho⟩ := hr'.hp i _ hg
        have hl := (hr'.fix i (ρ k) (by rw [hloc, h1]; rfl)).1
        rw [hl] at ho
        obtain ⟨g, o, n, e, cells, h3, h4, h5, h6, h7⟩ := ho
        obtain ⟨hal, hag⟩ := argsR_get c1 c2 hrl
        refine ⟨g, o, n, e, cells, h3, h4, h5, by omega, fun j c hj => ?_⟩
        obtain ⟨x, hx⟩ : ∃ x, c1[j]? = some x := ⟨_, List.getElem?_eq_getElem (by rw [hal]; exact (List.getElem?_eq_some_iff.1 hj).1)⟩
        obtain ⟨y, hy, hxy⟩ := hag j x hx
        rw [hj] at hy; cases hy
        obtain ⟨u, hu, hv⟩ := h7 j x hx
        refine ⟨u, hu, ?_⟩
        rcases hxy with ⟨k', j', b, rfl, hk', rfl⟩ | ⟨rfl, hp⟩
        · obtain ⟨_, a, rfl, had⟩ := hv.ptr_inv
          obtain ⟨csb, hbb⟩ := hB b (List.mem_of_getElem? hk')
          have hUb := (hr.hp b _ hbb).1
          have hlb := (hr'.fix k' (ρ b) (by rw [hloc, hk']; rfl)).1
          refine .ptr a (.inl hUb) ?_
          rw [hUρ b hUb, ← hlb]
          exact had
        · rcases hlift with hlift | hlift
          · exact .p ((VP_of_pure hv hp).mono hlift (fun _ _ => rfl))
          · rw [hlift.1] at hc1; simp at hc1
      | none =>
        rw [hbx] at hk
        simp only at hk
        obtain ⟨hUk, ho⟩ := hr.hp k o hk
        refine ⟨.inl hUk, ObR.mono hok hokw hUm hlater (fun g o n hl => hheap g (hold k g o n hl) fun b hb o' n' hb' => ?_) ho⟩
        have := hr.inj k b g o n o' n' hl hb'
        subst this
        exact get_boxesAt_none B cs k hbx (hlen.symm.trans hlc) hb
  · rw [get_append, get_obsFrom] at hk
    have hin : ¬ (nm ≤ k ∧ k < nm + es.length) := fun hh => by
      rw [if_pos hh.1, List.getElem?_eq_getElem (show k - nm < es.length by omega)] at hk
      cases hk
    have hno : (if nm ≤ k then es[k - nm]? else none) = none := by
      split
      · exact List.getElem?_eq_none (by omega)
      · rfl
    rw [hno] at hk
    simp only [get_append] at hk
    unfold backLoc
    rw [if_neg hin]
    cases hbx : get (boxesAt B cs) k with
    | some o' => rw [hbx] at hk; cases hk
    | none => rw [hbx] at hk; exact hr.hd k hk
  · rcases hcase k g o n h1 with ⟨i, rfl, hi, hl⟩ | hl <;> rcases hcase k' g o' n' h2 with ⟨i', rfl, hi', hl'⟩ | hl'
    · have := hr'.inj _ _ g o n o' n' hl hl'
      omega
    · have := hoff i g o n hi hl
      have := hold _ g o' n' hl'
      omega
    · have := hoff i' g o' n' hi' hl'
      have := hold _ g o n hl
      omega
    · exact hr.inj _ _ g o n o' n' hl hl'
  · have hg' : g < w.heap.size := Nat.lt_of_lt_of_le hg hr.size
    rw [← hr.old g hg he]
    refine hheap g hg' fun b hb o n hl => ?_
    rcases (hr.ownl g ⟨b, o, n, hl⟩).1 with h1 | h1
    · exact he h1
    · omega
  · rcases hown g ho with ho | ho
    · exact ⟨(hr.ownl g ho).1, by have := (hr.ownl g ho).2; omega⟩
    · exact ⟨.inr (by have := hr.size; omega), ho.2.1⟩
  · obtain ⟨h1, h2, cs0, h3⟩ := hr.fix b l hb
    refine ⟨by rw [hUρ b h2]; exact h1, .inl h2, ?_⟩
    have hin : ¬ (nm ≤ b ∧ b < nm + es.length) := fun hh => hfr b h2 ⟨hh.1, by omega⟩
    have hno : (if nm ≤ b then es[b - nm]? else none) = none := by
      split
      · exact List.getElem?_eq_none (by omega)
      · rfl
    rw [get_append, get_obsFrom, hno]
    simp only [get_append]
    cases hbx : get (boxesAt B cs) b with
    | some o' =>
      obtain ⟨i, cs', _, _, rfl⟩ := get_boxesAt B cs b _ hbx
      exact ⟨cs', rfl⟩
    | none => exact ⟨cs0, h3⟩

/-- What a function does: its arguments (pure, or boxes with the names 0, 1, ..), the boxes' cells, the value, the cells after, the rows that it hands out (names 4, 5, ..). -/
def Fn (P : Program) (f : FuncId) (xs : List AV) (bs : List (List AV)) (r : AV) (bs' : List (List AV)) (es : List Ob) : Prop :=
  Enters P f ∧ ∀ (C : Ctx) (ρ : Nat → Loc) (U : Nat → Prop) (w : World) (vals : Array Value), HR C ρ U (boxesFrom 0 bs) w → (∀ b, U b → b < 4) → VL w (okc C ρ w) ρ U xs vals →
    Calls P f vals w fun e w' => ∃ v ρ' U', e = .returned v ∧ HR C ρ' U' (outs bs' es) w' ∧ VR w' (okc C ρ' w') ρ' U' r v

/-- The function's text. -/
structure FnOk (P : Program) (f : FuncId) (sc : SCode) (res : List SRes) (nt : Nat) : Prop where
  fn : ∃ fn c, P.funcs[f]? = some fn ∧ (fn.name == "runtime.NumGoroutine") = false ∧ fn.body = some c ∧ stripCode P c = some sc ∧ stripRes P fn.results.toList = some res ∧
    fn.results.toList.length ≤ 4 ∧ fn.ntmps = nt
  ok : okCode nt sc = true
  mixed : P.follows .mixedOrders = true

def tFrom : Nat → List AV → List (Nat × AV)
  | _, [] => []
  | k, x :: l => (k, x) :: tFrom (k + 1) l

theorem get_tFrom : ∀ (l : List AV) (k j : Nat), get (tFrom k l) j = if k ≤ j then l[j - k]? else none
  | [], k, j => by simp [tFrom]
  | o :: l, k, j => by
    simp only [tFrom, get]
    by_cases e : k = j
    · subst e; simp
    · rw [if_neg e, get_tFrom l (k + 1) j]
      by_cases h : k ≤ j
      · rw [if_pos h, if_pos (show k + 1 ≤ j by omega)]
        have : j - k = (j - (k + 1)) + 1 := by omega
        rw [this, List.getElem?_cons_succ]
      · rw [if_neg h, if_neg (by omega)]

/-- The end of a function. -/
def Fin (res : List SRes) (r : AV) (bs' : List (List AV)) (es : List Ob) (t : List (Nat × AV)) (h : List (Nat × Ob)) : Prop :=
  ∃ S N xs, retV t h res = some xs ∧ okS h S N (outs bs' es) = true ∧ rvH h S N (outs bs' es) S ∧ rvN (outs bs' es) N ∧ rv h S N r (retOne xs)
def finQ (res : List SRes) (r : AV) (bs' : List (List AV)) (es : List Ob) : Exit → St → Prop
  | .normal, s => Fin res r bs' es s.t s.h
  | .ret, s => Fin res r bs' es s.t s.h
  | _, _ => False

theorem Fn.of_go {P : Program} {f : FuncId} {sc : SCode} {res : List SRes} {nt : Nat} (hok : FnOk P f sc res nt) {xs : List AV} {bs : List (List AV)} {r : AV} {bs' : List (List AV)} {es : List Ob}
    (hn : xs.length ≤ nt) (hgo : go P [.code sc] (finQ res r bs' es) 8 (tFrom 0 xs) (boxesFrom 0 bs)) : Fn P f xs bs r bs' es := by
  obtain ⟨⟨fn, c, hf, hnm, hb, hs, hres, hr4, rfl⟩, hoc, hm⟩ := hok
  refine ⟨⟨fn, hf, hnm, by rw [hb]; rfl⟩, fun C ρ U w vals hr hU hv => ?_⟩
  let C1 : Ctx := { C with nt := fn.ntmps }
  have hr1 : HR C1 ρ U (boxesFrom 0 bs) w := ⟨hr.hp, hr.hd, hr.inj, hr.os, hr.tape, hr.output, hr.size, hr.old, hr.okl, hr.ownl, hr.fix⟩
  refine calls_of_wp hf hb (wpc_sound (C := C1) hm c sc hs hoc _ _ ⟨8, tFrom 0 xs, boxesFrom 0 bs⟩ _ w ⟨ρ, U, ⟨hr1, fun k x hk => ?_, rfl, ?_⟩, fun b hb => by have := hU b hb; simp only; omega⟩ hgo fun e s a w' hA hQ => ?_)
  · rw [get_tFrom] at hk
    simp only [Nat.zero_le, if_true, Nat.sub_zero] at hk
    have hlt : k < vals.size := by rw [← hv.1]; exact (List.getElem?_eq_some_iff.1 hk).1
    refine ⟨vals[k], ?_, hv.2 k x _ hk (Array.getElem?_eq_getElem hlt)⟩
    simp [Array.getElem?_append, hlt]
  · have := hv.1
    simp only [Array.size_append, Array.size_replicate]
    show _ = fn.ntmps
    omega
  · have fin : Fin res r bs' es s.t s.h → a.defers = [] ∧ ∃ v, (results fn a.tmps).run P w' = .ok v w' ∧ ∃ v_1 ρ' U', Ending.returned v = Ending.returned v_1 ∧ HR C ρ' U' (outs bs' es) w' ∧ VR w' (okc C ρ' w') ρ' U' r v_1 := fun hF => by
      obtain ⟨S, N, ys, h1, h2, h3, h4, h5⟩ := hF
      obtain ⟨ρ1, U1, hS, _⟩ := hA
      obtain ⟨vs, h6, h7, h8, h9⟩ := retV_ok (P := P) hS.hr hS.tm fn.results.toList res ys hres h1
      refine ⟨hS.defers, _, results_eq a.tmps w' rfl h6 hr4 h8, _, newLoc ρ1 S N, newU S N, rfl, ?_, ?_⟩
      · have := rv_hr hS.hr h2 h3 h4
        exact ⟨this.hp, this.hd, this.inj, this.os, this.tape, this.output, this.size, this.old, this.okl, this.ownl, this.fix⟩
      · exact rv_vr hS.hr (retOne_ok (by omega) h9) r h5
    cases e with
    | normal => exact fin hQ
    | ret => exact fin hQ
    | exit i => exact hQ.elim
    | goto l => exact hQ.elim
    | panic ch => exact hQ.elim
    | outgrown => exact hQ.elim
end
end Go.Eng
