/-
  What the operations of the program do, shown for the translated code: parts of an abstract interpreter.
  No condition: definitions and lemmas.
-/
import Derived.WalkKit
set_option linter.all false
namespace Go.Eng
open Go
inductive AV where
  | v (x : Value)
  | agg (cs : List AV)
  | tup (vs : List AV)
  | sl (sz : Nat) (xs : List (List AV))
  | own (b sz off len : Nat)
  | ptr (b j : Nat)
  | rp (b sz k j : Nat)
  | pel (cs : List AV) (j : Nat)
  | mp (b : Nat)
  | fn (f : FuncId) (caps : List AV)
instance : Inhabited AV := ⟨.v undef⟩
inductive Ob where
  | box (cs : List AV)
  | row (e : TypeId) (sz : Nat) (xs : List (List AV))
  | map (es : List (Value × AV))
  | dead
inductive Loc where
  | dead
  | nil
  | at (g o n : Nat)
def get {α : Type} : List (Nat × α) → Nat → Option α
  | [], _ => none
  | (j, x) :: l, k => if j = k then some x else get l k
@[simp] theorem get_nil {α : Type} (k : Nat) : get ([] : List (Nat × α)) k = none := rfl
theorem get_cons {α : Type} (j k : Nat) (x : α) (l : List (Nat × α)) : get ((j, x) :: l) k = if j = k then some x else get l k := rfl
theorem get_same {α : Type} (k : Nat) (x : α) (l : List (Nat × α)) : get ((k, x) :: l) k = some x := by simp [get]
theorem get_ne {α : Type} (j k : Nat) (x : α) (l : List (Nat × α)) (h : j ≠ k) : get ((j, x) :: l) k = get l k := by simp [get, h]
def funVal (f : Nat) (vs : Array Value) : Value := if f < 1000000 then .func (.func f) #[] vs else .func (.func (f - 1000000)) vs #[]
inductive VP (w : World) (ok : Nat → Prop) : AV → Value → Prop
  | v (x : Value) : VP w ok (.v x) x
  | agg {cs : List AV} {vs : Array Value} (hl : cs.length = vs.size)
      (h : ∀ (i : Nat) (c : AV) (u : Value), cs[i]? = some c → vs[i]? = some u → VP w ok c u) : VP w ok (.agg cs) (.agg vs)
  | tup {cs : List AV} {vs : Array Value} (hl : cs.length = vs.size)
      (h : ∀ (i : Nat) (c : AV) (u : Value), cs[i]? = some c → vs[i]? = some u → VP w ok c u) : VP w ok (.tup cs) (.tuple vs)
  | nilsl {sz : Nat} : VP w ok (.sl sz []) (.slice none 0 0)
  | sl {sz : Nat} {xs : List (List AV)} (a : Addr) (n cap : Nat) (f : Nat → Nat → Value) (hn : n = xs.length) (hcap : n ≤ cap)
      (hok : 0 < xs.length → a.spot = none ∧ ok a.block)
      (hl : ∀ (k : Nat) (e : List AV), xs[k]? = some e → e.length = sz)
      (hc : ∀ (k : Nat) (e : List AV) (j : Nat) (c : AV), xs[k]? = some e → e[j]? = some c → w.cell? ⟨a.block, a.off + (k * sz + j), none⟩ = some (f k j) ∧ (f k j).oneCell' = true)
      (hv : ∀ (k : Nat) (e : List AV) (j : Nat) (c : AV), xs[k]? = some e → e[j]? = some c → VP w ok c (f k j)) : VP w ok (.sl sz xs) (.slice (some a) n cap)
  | pel {cs : List AV} {j : Nat} (g o : Nat) (f : Nat → Value) (hok : ok g)
      (hc : ∀ (i : Nat) (c : AV), cs[i]? = some c → w.cell? ⟨g, o + i, none⟩ = some (f i))
      (hv : ∀ (i : Nat) (c : AV), cs[i]? = some c → VP w ok c (f i)) : VP w ok (.pel cs j) (.pointer (some ⟨g, o + j, none⟩))
  | fn {f : FuncId} {cs : List AV} {vs : Array Value} (hf : f < 2000000) (hl : cs.length = vs.size)
      (h : ∀ (i : Nat) (c : AV) (u : Value), cs[i]? = some c → vs[i]? = some u → VP w ok c u) : VP w ok (.fn f cs) (funVal f vs)
  | slc {sz : Nat} {xs : List (List AV)} {u : Value} (h : VP w ok (.sl sz xs) u) (hc : u = .slice none 0 0 ∨ ∃ a n, u = .slice (some a) n n) : VP w ok (.fn 2000000 [.sl sz xs]) u
theorem VP.mono {w w' : World} {ok ok' : Nat → Prop} (hok : ∀ g, ok g → ok' g) (hw : ∀ g, ok g → w'.heap[g]? = w.heap[g]?) {x : AV} {u : Value}
    (h : VP w ok x u) : VP w' ok' x u := by
  induction h with
  | v x => exact .v x
  | agg hl _ ih => exact .agg hl ih
  | tup hl _ ih => exact .tup hl ih
  | nilsl => exact .nilsl
  | sl a n cap f hn hcap hk hl hc _ ih =>
    refine .sl a n cap f hn hcap (fun h => ⟨(hk h).1, hok _ (hk h).2⟩) hl (fun k e j c h1 h2 => ?_) ih
    have h3 := (List.getElem?_eq_some_iff.1 h1).1
    rw [← (hc k e j c h1 h2).1]
    exact ⟨World.cell?_of_block (a := ⟨a.block, _, none⟩) (hw _ (hk (by omega)).2), (hc k e j c h1 h2).2⟩
  | pel g o f hk hc _ ih =>
    refine .pel g o f (hok _ hk) (fun i c h1 => ?_) ih
    rw [← hc i c h1]
    exact World.cell?_of_block (a := ⟨g, _, none⟩) (hw _ hk)
  | fn hf hl _ ih => exact .fn hf hl ih
  | slc h hc ih => exact .slc ih hc
def OwnAt (l : Loc) (sz off len : Nat) (u : Value) : Prop :=
  (∃ a n c, u = .slice a n c) ∧
  match l with
  | .dead => True
  | .nil => len = 0 ∧ u = .slice none 0 0
  | .at g o n => (len = 0 ∧ n ≤ off * sz ∧ (u = .slice none 0 0 ∨ ∃ a, u = .slice (some a) 0 0)) ∨ ∃ cap, len ≤ cap ∧ (off + cap) * sz = n ∧ u = .slice (some ⟨g, o + off * sz, none⟩) len cap
inductive VR (w : World) (ok : Nat → Prop) (ρ : Nat → Loc) (U : Nat → Prop) : AV → Value → Prop
  | p {x : AV} {u : Value} (h : VP w ok x u) : VR w ok ρ U x u
  | agg {cs : List AV} {vs : Array Value} (hl : cs.length = vs.size)
      (h : ∀ (i : Nat) (c : AV) (u : Value), cs[i]? = some c → vs[i]? = some u → VR w ok ρ U c u) : VR w ok ρ U (.agg cs) (.agg vs)
  | tup {cs : List AV} {vs : Array Value} (hl : cs.length = vs.size)
      (h : ∀ (i : Nat) (c : AV) (u : Value), cs[i]? = some c → vs[i]? = some u → VR w ok ρ U c u) : VR w ok ρ U (.tup cs) (.tuple vs)
  | fn {f : FuncId} {cs : List AV} {vs : Array Value} (hf : f < 2000000) (hl : cs.length = vs.size)
      (h : ∀ (i : Nat) (c : AV) (u : Value), cs[i]? = some c → vs[i]? = some u → VR w ok ρ U c u) : VR w ok ρ U (.fn f cs) (funVal f vs)
  | own {b sz off len : Nat} {u : Value} (hu : U b) (h : OwnAt (ρ b) sz off len u) : VR w ok ρ U (.own b sz off len) u
  | ptr {b j : Nat} (a : Option Addr) (hu : U b) (h : ∀ g o n, ρ b = .at g o n → a = some ⟨g, o + j, none⟩) : VR w ok ρ U (.ptr b j) (.pointer a)
  | rp {b sz k j : Nat} (a : Option Addr) (hu : U b) (h : ∀ g o n, ρ b = .at g o n → a = some ⟨g, o + (k * sz + j), none⟩) : VR w ok ρ U (.rp b sz k j) (.pointer a)
  | mp {b : Nat} (r : Option Nat) (hu : U b) (h : ∀ g o n, ρ b = .at g o n → r = some g) : VR w ok ρ U (.mp b) (.map r)
def Later (U : Nat → Prop) (ρ ρ' : Nat → Loc) : Prop := ∀ b, U b → ρ' b = ρ b ∨ ρ' b = .dead
theorem VR.mono {w w' : World} {ok ok' : Nat → Prop} {ρ ρ' : Nat → Loc} {U U' : Nat → Prop} (hok : ∀ g, ok g → ok' g) (hw : ∀ g, ok g → w'.heap[g]? = w.heap[g]?)
    (hU : ∀ b, U b → U' b) (hρ : Later U ρ ρ') {x : AV} {u : Value} (h : VR w ok ρ U x u) : VR w' ok' ρ' U' x u := by
  induction h with
  | p h => exact .p (h.mono hok hw)
  | agg hl _ ih => exact .agg hl ih
  | tup hl _ ih => exact .tup hl ih
  | fn hf hl _ ih => exact .fn hf hl ih
  | own hu h =>
    refine .own (hU _ hu) ?_
    rcases hρ _ hu with e | e
    · rw [e]; exact h
    · rw [e]; exact ⟨h.1, trivial⟩
  | ptr a hu h =>
    refine .ptr a (hU _ hu) ?_
    rcases hρ _ hu with e | e
    · rw [e]; exact h
    · rw [e]; intro g o n h; cases h
  | rp a hu h =>
    refine .rp a (hU _ hu) ?_
    rcases hρ _ hu with e | e
    · rw [e]; exact h
    · rw [e]; intro g o n h; cases h
  | mp a hu h =>
    refine .mp a (hU _ hu) ?_
    rcases hρ _ hu with e | e
    · rw [e]; exact h
    · rw [e]; intro g o n h; cases h
def VL (w : World) (ok : Nat → Prop) (ρ : Nat → Loc) (U : Nat → Prop) (cs : List AV) (vs : Array Value) : Prop :=
  cs.length = vs.size ∧ ∀ (i : Nat) (c : AV) (u : Value), cs[i]? = some c → vs[i]? = some u → VR w ok ρ U c u
section inv
variable {w : World} {ok : Nat → Prop} {ρ : Nat → Loc} {U : Nat → Prop}
theorem VR.agg_inv {cs : List AV} {u : Value} (h : VR w ok ρ U (.agg cs) u) : ∃ vs, u = .agg vs ∧ VL w ok ρ U cs vs := by
  cases h with
  | p h => cases h with | agg hl h => exact ⟨_, rfl, hl, fun i c u a b => .p (h i c u a b)⟩
  | agg hl h => exact ⟨_, rfl, hl, h⟩
theorem VR.tup_inv {cs : List AV} {u : Value} (h : VR w ok ρ U (.tup cs) u) : ∃ vs, u = .tuple vs ∧ VL w ok ρ U cs vs := by
  cases h with
  | p h => cases h with | tup hl h => exact ⟨_, rfl, hl, fun i c u a b => .p (h i c u a b)⟩
  | tup hl h => exact ⟨_, rfl, hl, h⟩
theorem VR.fn_inv {f : FuncId} {cs : List AV} {u : Value} (hf : f < 2000000) (h : VR w ok ρ U (.fn f cs) u) : ∃ vs, u = funVal f vs ∧ VL w ok ρ U cs vs := by
  cases h with
  | p h => cases h with
    | fn _ hl h => exact ⟨_, rfl, hl, fun i c u a b => .p (h i c u a b)⟩
    | slc => exact absurd hf (Nat.lt_irrefl _)
  | fn _ hl h => exact ⟨_, rfl, hl, h⟩
theorem VR.slc_inv {sz : Nat} {xs : List (List AV)} {u : Value} (h : VR w ok ρ U (.fn 2000000 [.sl sz xs]) u) : VP w ok (.sl sz xs) u ∧ (u = .slice none 0 0 ∨ ∃ a n, u = .slice (some a) n n) := by
  cases h with
  | p h => cases h with
    | fn hf _ _ => exact absurd hf (Nat.lt_irrefl _)
    | slc h hc => exact ⟨h, hc⟩
  | fn hf _ _ => exact absurd hf (Nat.lt_irrefl _)
theorem VR.v_inv {x u : Value} (h : VR w ok ρ U (.v x) u) : u = x := by
  cases h with | p h => cases h; rfl
theorem VR.sl_inv {sz : Nat} {xs : List (List AV)} {u : Value} (h : VR w ok ρ U (.sl sz xs) u) : VP w ok (.sl sz xs) u := by
  cases h with | p h => exact h
theorem VR.pel_inv {cs : List AV} {j : Nat} {u : Value} (h : VR w ok ρ U (.pel cs j) u) : VP w ok (.pel cs j) u := by
  cases h with | p h => exact h
theorem VR.own_inv {b sz off len : Nat} {u : Value} (h : VR w ok ρ U (.own b sz off len) u) : U b ∧ OwnAt (ρ b) sz off len u := by
  cases h with
  | p h => cases h
  | own hu h => exact ⟨hu, h⟩
theorem VR.ptr_inv {b j : Nat} {u : Value} (h : VR w ok ρ U (.ptr b j) u) : U b ∧ ∃ a, u = .pointer a ∧ ∀ g o n, ρ b = .at g o n → a = some ⟨g, o + j, none⟩ := by
  cases h with
  | p h => cases h
  | ptr a hu h => exact ⟨hu, a, rfl, h⟩
theorem VR.rp_inv {b sz k j : Nat} {u : Value} (h : VR w ok ρ U (.rp b sz k j) u) : U b ∧ ∃ a, u = .pointer a ∧ ∀ g o n, ρ b = .at g o n → a = some ⟨g, o + (k * sz + j), none⟩ := by
  cases h with
  | p h => cases h
  | rp a hu h => exact ⟨hu, a, rfl, h⟩
theorem VR.mp_inv {b : Nat} {u : Value} (h : VR w ok ρ U (.mp b) u) : U b ∧ ∃ r, u = .map r ∧ ∀ g o n, ρ b = .at g o n → r = some g := by
  cases h with
  | p h => cases h
  | mp a hu h => exact ⟨hu, a, rfl, h⟩
theorem VL.nil : VL w ok ρ U [] #[] := ⟨rfl, by simp⟩
theorem VL.push {cs : List AV} {vs : Array Value} (h : VL w ok ρ U cs vs) {c : AV} {u : Value} (hc : VR w ok ρ U c u) : VL w ok ρ U (cs ++ [c]) (vs.push u) := by
  refine ⟨by simp [h.1], fun i c' u' h1 h2 => ?_⟩
  rw [Array.getElem?_push] at h2
  rw [List.getElem?_append] at h1
  split at h2
  · subst_vars
    rw [if_neg (by have := h.1; omega)] at h1
    have : vs.size - cs.length = 0 := by have := h.1; omega
    rw [this] at h1
    simp at h1 h2
    subst h1; subst h2
    exact hc
  · rename_i hi
    by_cases hlt : i < cs.length
    · rw [if_pos hlt] at h1
      exact h.2 i _ _ h1 h2
    · have : i < vs.size := (Array.getElem?_eq_some_iff.1 h2).1
      have := h.1
      omega
theorem VL.mono {w' : World} {ok' : Nat → Prop} {ρ' : Nat → Loc} {U' : Nat → Prop} (hok : ∀ g, ok g → ok' g) (hw : ∀ g, ok g → w'.heap[g]? = w.heap[g]?)
    (hU : ∀ b, U b → U' b) (hρ : Later U ρ ρ') {cs : List AV} {vs : Array Value} (h : VL w ok ρ U cs vs) : VL w' ok' ρ' U' cs vs :=
  ⟨h.1, fun i c u h1 h2 => (h.2 i c u h1 h2).mono hok hw hU hρ⟩
end inv
structure Ctx where
  w0 : World
  ok : Nat → Prop
  ext : Nat → Prop
  loc : Nat → Option Loc
  nt : Nat
  extl : ∀ g, ext g → ∃ b o n, loc b = some (.at g o n)
  locb : ∀ b l, loc b = some l → b < 4
  giv : Nat → Prop
  givx : ∀ g, giv g → ¬ ext g
def Ctx.new (C : Ctx) (g : Nat) : Prop := C.giv g ∨ C.w0.heap.size ≤ g
def Owned (ρ : Nat → Loc) (g : Nat) : Prop := ∃ b o n, ρ b = .at g o n
def okc (C : Ctx) (ρ : Nat → Loc) (w : World) (g : Nat) : Prop := (C.ok g ∨ C.new g) ∧ g < w.heap.size ∧ ¬ Owned ρ g
def ObR (w : World) (ok : Nat → Prop) (ρ : Nat → Loc) (U : Nat → Prop) (l : Loc) : Ob → Prop
  | .box cs => ∃ g o n e cells, l = .at g o n ∧ w.heap[g]? = some (.cells cells e (0, 0)) ∧ o + n ≤ cells.size ∧ n = cs.length ∧
      ∀ j c, cs[j]? = some c → ∃ u, cells[o + j]? = some u ∧ VR w ok ρ U c u
  | .row e sz xs => (l = .nil ∧ xs = []) ∨ ∃ g o n cells, l = .at g o n ∧ w.heap[g]? = some (.cells cells e (0, 0)) ∧ o + n ≤ cells.size ∧ xs.length * sz ≤ n ∧
      (∀ (k : Nat) (x : List AV), xs[k]? = some x → x.length = sz) ∧
      ∀ (k : Nat) (x : List AV) (j : Nat) (c : AV), xs[k]? = some x → x[j]? = some c → ∃ u, cells[o + (k * sz + j)]? = some u ∧ u.oneCell' = true ∧ VP w ok c u
  | .map es => ∃ g ents clock, l = .at g 0 0 ∧ w.heap[g]? = some (.map ents clock) ∧ ents.size = es.length ∧
      ∀ (i : Nat) (k : Value) (c : AV) (m : MapEntry), es[i]? = some (k, c) → ents[i]? = some m → m.key = k ∧ VR w ok ρ U c m.val
  | .dead => l = .dead
structure HR (C : Ctx) (ρ : Nat → Loc) (U : Nat → Prop) (h : List (Nat × Ob)) (w : World) : Prop where
  hp : ∀ b o, get h b = some o → U b ∧ ObR w (okc C ρ w) ρ U (ρ b) o
  hd : ∀ b, get h b = none → ρ b = .dead
  inj : ∀ b b' g o n o' n', ρ b = .at g o n → ρ b' = .at g o' n' → b = b'
  os : w.os = C.w0.os
  tape : w.tape = C.w0.tape
  output : w.output = C.w0.output
  size : C.w0.heap.size ≤ w.heap.size
  old : ∀ g, g < C.w0.heap.size → ¬ C.ext g → ¬ C.giv g → w.heap[g]? = C.w0.heap[g]?
  okl : ∀ g, C.ok g → g < C.w0.heap.size ∧ ¬ C.ext g ∧ ¬ C.giv g
  ownl : ∀ g, Owned ρ g → (C.ext g ∨ C.new g) ∧ g < w.heap.size
  fix : ∀ b l, C.loc b = some l → ρ b = l ∧ U b ∧ ∃ cs, get h b = some (.box cs)
structure St where
  n : Nat
  t : List (Nat × AV)
  h : List (Nat × Ob)
structure R (C : Ctx) (ρ : Nat → Loc) (U : Nat → Prop) (s : St) (a : Act) (w : World) : Prop where
  hr : HR C ρ U s.h w
  defers : a.defers = []
  sz : a.tmps.size = C.nt
  tm : ∀ k x, get s.t k = some x → ∃ u, a.tmps[k]? = some u ∧ VR w (okc C ρ w) ρ U x u
def up (ρ : Nat → Loc) (b : Nat) (l : Loc) : Nat → Loc := fun k => if k = b then l else ρ k
def addU (U : Nat → Prop) (b : Nat) : Nat → Prop := fun k => U k ∨ k = b
structure Moved (C : Ctx) (ρ : Nat → Loc) (U : Nat → Prop) (h : List (Nat × Ob)) (w : World) (b : Nat) (l : Loc) (w' : World) : Prop where
  os : w'.os = w.os
  tape : w'.tape = w.tape
  output : w'.output = w.output
  size : w.heap.size ≤ w'.heap.size
  bl : ∀ g, g < w.heap.size → (∀ o n, ρ b ≠ .at g o n) → w'.heap[g]? = w.heap[g]?
  way : (U b ∧ l = ρ b) ∨ (U b ∧ l = .dead ∧ ∀ cs, get h b ≠ some (.box cs)) ∨
    (¬ U b ∧ (l = .nil ∨ ∃ g o n, l = .at g o n ∧ w.heap.size ≤ g ∧ g < w'.heap.size))
section moved
variable {C : Ctx} {ρ : Nat → Loc} {U : Nat → Prop} {h : List (Nat × Ob)} {w w' : World} {b : Nat} {l : Loc}
theorem HR.deadU (hr : HR C ρ U h w) (hu : ¬ U b) : ρ b = .dead := by
  cases hg : get h b with
  | none => exact hr.hd b hg
  | some o => exact absurd (hr.hp b o hg).1 hu
theorem Moved.later (hm : Moved C ρ U h w b l w') : Later U ρ (up ρ b l) := by
  intro k hk
  unfold up
  by_cases e : k = b
  · subst e
    rw [if_pos rfl]
    rcases hm.way with ⟨_, h⟩ | ⟨_, h, _⟩ | ⟨h, _⟩
    · exact .inl h
    · exact .inr h
    · exact absurd hk h
  · rw [if_neg e]; exact .inl rfl
theorem Moved.owned (hm : Moved C ρ U h w b l w') {g : Nat} (ho : Owned (up ρ b l) g) : Owned ρ g ∨ (w.heap.size ≤ g ∧ g < w'.heap.size) := by
  obtain ⟨k, o, n, hk⟩ := ho
  unfold up at hk
  by_cases e : k = b
  · rw [if_pos e] at hk
    rcases hm.way with ⟨_, h⟩ | ⟨_, h, _⟩ | ⟨_, h | ⟨g', o', n', h, h1, h2⟩⟩
    · rw [h] at hk; exact .inl ⟨b, o, n, hk⟩
    · rw [h] at hk; cases hk
    · rw [h] at hk; cases hk
    · rw [h] at hk; cases hk; exact .inr ⟨h1, h2⟩
  · rw [if_neg e] at hk; exact .inl ⟨k, o, n, hk⟩
theorem Moved.okc (hm : Moved C ρ U h w b l w') {g : Nat} (hg : okc C ρ w g) : okc C (up ρ b l) w' g := by
  refine ⟨hg.1, Nat.lt_of_lt_of_le hg.2.1 hm.size, fun ho => ?_⟩
  rcases hm.owned ho with h | h
  · exact hg.2.2 h
  · have := hg.2.1; omega
theorem Moved.same (hm : Moved C ρ U h w b l w') {g : Nat} (hg : Go.Eng.okc C ρ w g) : w'.heap[g]? = w.heap[g]? :=
  hm.bl g hg.2.1 fun o n e => hg.2.2 ⟨b, o, n, e⟩
theorem Moved.vr (hm : Moved C ρ U h w b l w') {x : AV} {u : Value} (hx : VR w (Go.Eng.okc C ρ w) ρ U x u) : VR w' (Go.Eng.okc C (up ρ b l) w') (up ρ b l) (addU U b) x u :=
  hx.mono (fun _ => hm.okc) (fun _ => hm.same) (fun _ h => .inl h) hm.later
theorem Moved.vp (hm : Moved C ρ U h w b l w') {x : AV} {u : Value} (hx : VP w (Go.Eng.okc C ρ w) x u) : VP w' (Go.Eng.okc C (up ρ b l) w') x u :=
  hx.mono (fun _ => hm.okc) (fun _ => hm.same)
theorem ObR.keep (hm : Moved C ρ U h w b l w') {l' : Loc} {ob : Ob} (hl : ∀ g o n, l' = .at g o n → g < w.heap.size ∧ w'.heap[g]? = w.heap[g]?)
    (ho : ObR w (Go.Eng.okc C ρ w) ρ U l' ob) : ObR w' (Go.Eng.okc C (up ρ b l) w') (up ρ b l) (addU U b) l' ob := by
  cases ob with
  | box cs =>
    obtain ⟨g, o, n, e, cells, h1, h2, h3, h4, h5⟩ := ho
    refine ⟨g, o, n, e, cells, h1, (hl g o n h1).2.trans h2, h3, h4, fun j c hj => ?_⟩
    obtain ⟨u, hu, hv⟩ := h5 j c hj
    exact ⟨u, hu, hm.vr hv⟩
  | row e sz xs =>
    rcases ho with ho | ⟨g, o, n, cells, h1, h2, h3, h4, h5, h6⟩
    · exact .inl ho
    · refine .inr ⟨g, o, n, cells, h1, (hl g o n h1).2.trans h2, h3, h4, h5, fun k x j c hk hj => ?_⟩
      obtain ⟨u, hu, h1c, hv⟩ := h6 k x j c hk hj
      exact ⟨u, hu, h1c, hm.vp hv⟩
  | map es =>
    obtain ⟨g, ents, clock, h1, h2, h3, h4⟩ := ho
    exact ⟨g, ents, clock, h1, (hl g 0 0 h1).2.trans h2, h3, fun i k c m hi he => ⟨(h4 i k c m hi he).1, hm.vr (h4 i k c m hi he).2⟩⟩
  | dead => exact ho
theorem HR.addDead (hr : HR C ρ U h w) (hn : ¬ U b) : HR C ρ (addU U b) ((b, .dead) :: h) w where
  hp k o hk := by
    by_cases e : b = k
    · subst e
      rw [get_same] at hk
      cases hk
      exact ⟨.inr rfl, hr.deadU hn⟩
    · rw [get_ne _ _ _ _ e] at hk
      obtain ⟨h1, h2⟩ := hr.hp k o hk
      refine ⟨.inl h1, ?_⟩
      have vm : ∀ {x : AV} {u : Value}, VR w (Go.Eng.okc C ρ w) ρ U x u → VR w (Go.Eng.okc C ρ w) ρ (addU U b) x u := fun hx => hx.mono (fun _ h => h) (fun _ _ => rfl) (fun _ h => .inl h) (fun _ _ => .inl rfl)
      cases o with
      | box cs =>
        obtain ⟨g, o, n, e, cells, h1, h2, h3, h4, h5⟩ := h2
        refine ⟨g, o, n, e, cells, h1, h2, h3, h4, fun j c hj => ?_⟩
        obtain ⟨u, hu, hv⟩ := h5 j c hj
        exact ⟨u, hu, vm hv⟩
      | row e sz xs => exact h2
      | map es =>
        obtain ⟨g, ents, clock, h1, h2, h3, h4⟩ := h2
        exact ⟨g, ents, clock, h1, h2, h3, fun i k c m hi he => ⟨(h4 i k c m hi he).1, vm (h4 i k c m hi he).2⟩⟩
      | dead => exact h2
  hd k hk := by
    by_cases e : b = k
    · subst e; rw [get_same] at hk; cases hk
    · rw [get_ne _ _ _ _ e] at hk
      exact hr.hd k hk
  inj := hr.inj
  os := hr.os
  tape := hr.tape
  output := hr.output
  size := hr.size
  old := hr.old
  okl := hr.okl
  ownl := hr.ownl
  fix k l hk := by
    obtain ⟨h1, h2, cs, h3⟩ := hr.fix k l hk
    have e : b ≠ k := fun e => hn (e ▸ h2)
    exact ⟨h1, .inl h2, cs, by rw [get_ne _ _ _ _ e]; exact h3⟩
theorem Moved.hr (hm : Moved C ρ U h w b l w') (hr : HR C ρ U h w) {ob : Ob} (hb : (∃ cs, get h b = some (.box cs)) → ∃ cs, ob = .box cs)
    (ho : ObR w' (Go.Eng.okc C (up ρ b l) w') (up ρ b l) (addU U b) l ob) : HR C (up ρ b l) (addU U b) ((b, ob) :: h) w' where
  hp k o hk := by
    by_cases e : b = k
    · subst e
      rw [get_same] at hk
      cases hk
      refine ⟨.inr rfl, ?_⟩
      have : up ρ b l b = l := by simp [up]
      rw [this]; exact ho
    · rw [get_ne _ _ _ _ e] at hk
      have he : up ρ b l k = ρ k := by unfold up; rw [if_neg (fun h => e h.symm)]
      obtain ⟨h1, h2⟩ := hr.hp k o hk
      refine ⟨.inl h1, ?_⟩
      rw [he]
      refine ObR.keep hm (fun g o n hl => ?_) h2
      have hlt := (hr.ownl g ⟨k, o, n, hl⟩).2
      refine ⟨hlt, hm.bl g hlt fun o' n' h' => ?_⟩
      exact e (hr.inj b k g o' n' o n h' hl)
  hd k hk := by
    by_cases e : b = k
    · subst e; rw [get_same] at hk; cases hk
    · rw [get_ne _ _ _ _ e] at hk
      unfold up; rw [if_neg (fun h => e h.symm)]; exact hr.hd k hk
  inj k k' g o n o' n' h1 h2 := by
    have key : ∀ k o n, up ρ b l k = .at g o n → (k = b ∧ (ρ b = .at g o n ∨ w.heap.size ≤ g)) ∨ (k ≠ b ∧ ρ k = .at g o n) := by
      intro k o n hk
      unfold up at hk
      by_cases e : k = b
      · rw [if_pos e] at hk
        refine .inl ⟨e, ?_⟩
        rcases hm.way with ⟨_, h⟩ | ⟨_, h, _⟩ | ⟨_, h | ⟨g', o', n', h, h1, h2⟩⟩
        · rw [h] at hk; exact .inl hk
        · rw [h] at hk; cases hk
        · rw [h] at hk; cases hk
        · rw [h] at hk; cases hk; exact .inr h1
      · rw [if_neg e] at hk; exact .inr ⟨e, hk⟩
    rcases key k o n h1 with ⟨e1, a1⟩ | ⟨e1, a1⟩ <;> rcases key k' o' n' h2 with ⟨e2, a2⟩ | ⟨e2, a2⟩
    · rw [e1, e2]
    · rcases a1 with a1 | a1
      · rw [e1]; exact hr.inj _ _ _ _ _ _ _ a1 a2
      · have := (hr.ownl g ⟨k', o', n', a2⟩).2; omega
    · rcases a2 with a2 | a2
      · rw [e2]; exact hr.inj _ _ _ _ _ _ _ a1 a2
      · have := (hr.ownl g ⟨k, o, n, a1⟩).2; omega
    · exact hr.inj _ _ _ _ _ _ _ a1 a2
  os := hm.os.trans hr.os
  tape := hm.tape.trans hr.tape
  output := hm.output.trans hr.output
  size := Nat.le_trans hr.size hm.size
  old g hg he hv := by
    rw [← hr.old g hg he hv]
    refine hm.bl g (Nat.lt_of_lt_of_le hg hr.size) fun o n e => ?_
    rcases (hr.ownl g ⟨b, o, n, e⟩).1 with h | h
    · exact he h
    · rcases h with h | h
      · exact hv h
      · omega
  okl := hr.okl
  ownl g ho := by
    rcases hm.owned ho with h | h
    · exact ⟨(hr.ownl g h).1, Nat.lt_of_lt_of_le (hr.ownl g h).2 hm.size⟩
    · exact ⟨.inr (.inr (by have := hr.size; omega)), h.2⟩
  fix k l' hk := by
    obtain ⟨h1, h2, cs, h3⟩ := hr.fix k l' hk
    by_cases e : b = k
    · subst e
      obtain ⟨cs', hcs⟩ := hb ⟨cs, h3⟩
      refine ⟨?_, .inl h2, cs', by rw [get_same, hcs]⟩
      have : up ρ b l b = l := by simp [up]
      rw [this]
      rcases hm.way with ⟨_, h⟩ | ⟨_, _, h⟩ | ⟨h, _⟩
      · rw [h]; exact h1
      · exact absurd h3 (h cs)
      · exact absurd h2 h
    · refine ⟨?_, .inl h2, cs, by rw [get_ne _ _ _ _ e]; exact h3⟩
      unfold up; rw [if_neg (fun h => e h.symm)]; exact h1
theorem Moved.tm (hm : Moved C ρ U h w b l w') {a : Act} {t : List (Nat × AV)} (ht : ∀ k x, get t k = some x → ∃ u, a.tmps[k]? = some u ∧ VR w (Go.Eng.okc C ρ w) ρ U x u) :
    ∀ k x, get t k = some x → ∃ u, a.tmps[k]? = some u ∧ VR w' (Go.Eng.okc C (up ρ b l) w') (up ρ b l) (addU U b) x u := by
  intro k x hk
  obtain ⟨u, h1, h2⟩ := ht k x hk
  exact ⟨u, h1, hm.vr h2⟩
end moved
theorem HR.world {C : Ctx} {ρ : Nat → Loc} {U : Nat → Prop} {h : List (Nat × Ob)} {w w' : World} (hr : HR C ρ U h w) (e1 : w'.heap = w.heap) (e2 : w'.os = w.os)
    (e3 : w'.tape = w.tape) (e4 : w'.output = w.output) : HR C ρ U h w' ∧ ∀ x u, VR w (okc C ρ w) ρ U x u → VR w' (okc C ρ w') ρ U x u := by
  have ho : okc C ρ w' = okc C ρ w := by unfold okc; rw [e1]
  have hv : ∀ x u, VR w (okc C ρ w) ρ U x u → VR w' (okc C ρ w') ρ U x u := fun x u hx => by
    rw [ho]; exact hx.mono (fun _ h => h) (fun g _ => by rw [e1]) (fun _ h => h) (fun _ _ => .inl rfl)
  have hvp : ∀ x u, VP w (okc C ρ w) x u → VP w' (okc C ρ w') x u := fun x u hx => by
    rw [ho]; exact hx.mono (fun _ h => h) (fun g _ => by rw [e1])
  refine ⟨⟨fun b o hb => ⟨(hr.hp b o hb).1, ?_⟩, hr.hd, hr.inj, e2.trans hr.os, e3.trans hr.tape, e4.trans hr.output, by rw [e1]; exact hr.size,
    fun g h1 h2 h3 => by rw [e1]; exact hr.old g h1 h2 h3, hr.okl, fun g h1 => by rw [e1]; exact hr.ownl g h1, hr.fix⟩, hv⟩
  have h2 := (hr.hp b o hb).2
  cases o with
  | box cs =>
    obtain ⟨g, o, n, e, cells, h1, h2, h3, h4, h5⟩ := h2
    refine ⟨g, o, n, e, cells, h1, by rw [e1]; exact h2, h3, h4, fun j c hj => ?_⟩
    obtain ⟨u, hu, hx⟩ := h5 j c hj
    exact ⟨u, hu, hv _ _ hx⟩
  | row e sz xs =>
    rcases h2 with h2 | ⟨g, o, n, cells, h1, h2, h3, h4, h5, h6⟩
    · exact .inl h2
    · refine .inr ⟨g, o, n, cells, h1, by rw [e1]; exact h2, h3, h4, h5, fun k x j c hk hj => ?_⟩
      obtain ⟨u, hu, h1c, hx⟩ := h6 k x j c hk hj
      exact ⟨u, hu, h1c, hvp _ _ hx⟩
  | map es =>
    obtain ⟨g, ents, clock, h1, h2, h3, h4⟩ := h2
    exact ⟨g, ents, clock, h1, by rw [e1]; exact h2, h3, fun i k c m hi he => ⟨(h4 i k c m hi he).1, hv _ _ (h4 i k c m hi he).2⟩⟩
  | dead => exact h2
end Go.Eng
namespace Go.Eng
open Go
def ev (t : List (Nat × AV)) : Operand → Option AV
  | .tmp k => get t k
  | .const v => some (.v v)
  | .func f => if f < 1000000 then some (.fn f []) else none
  | .global _ => none
def evL (t : List (Nat × AV)) : List Operand → Option (List AV)
  | [] => some []
  | x :: l => match ev t x, evL t l with
    | some y, some ys => some (y :: ys)
    | _, _ => none
inductive SOp where
  | mov (x : Operand)
  | pick (c a b : Operand)
  | alloc (zs : List Value)
  | box (x : Operand)
  | build (zs : List Value) (parts : List (Nat × Nat × Operand))
  | bslice (e : TypeId) (sz : Nat) (zs : List Value) (len : Nat) (parts : List (Nat × Operand))
  | load (ag : Bool) (sz : Nat) (x : Operand)
  | store (sz : Nat) (x y : Operand)
  | nilc (x : Operand)
  | bin (op : BinOp) (x y : Operand)
  | eqs (neg : Bool) (ks : List Nat) (x y : Operand)
  | eqb (neg : Bool) (x y : Operand)
  | isnil (neg : Bool) (x : Operand)
  | un (op : UnOp) (x : Operand)
  | conv (k : IntKind) (x : Operand)
  | s2b (e : TypeId) (x : Operand)
  | b2s (x : Operand)
  | mkfn (f : FuncId) (caps : List Operand)
  | mkmfn (f : FuncId) (first : List Operand)
  | mkmap
  | look (z : Value) (m k : Operand)
  | look2 (z : Value) (m k : Operand)
  | mput (m k x : Operand)
  | mkslice (e : TypeId) (sz bytes : Nat) (zs : List Value) (l c : Operand)
  | slice (sz : Nat) (x : Operand) (lo hi mx : Option Operand)
  | sslice (x : Operand) (lo hi : Option Operand)
  | sarr (n sz : Nat) (x : Operand)
  | faddr (off : Nat) (x : Operand)
  | fld (ag : Bool) (off sz : Nat) (x : Operand)
  | iaddr (sz : Nat) (x i : Operand)
  | iaddrA (len sz : Nat) (x i : Operand)
  | idx (ag : Bool) (len sz : Nat) (x i : Operand)
  | idxs (x i : Operand)
  | len (x : Operand)
  | slen (x : Operand)
  | cap (x : Operand)
  | app (e : TypeId) (sz bytes : Nat) (zs : List Value) (s x : Operand)
  | appz (e : TypeId) (sz bytes : Nat) (zs : List Value) (s x : Operand)
  | clr (sz : Nat) (zs : List Value) (x : Operand)
  | copy (sz : Nat) (d x : Operand)
  | bad
  | ext (i : Nat) (x : Operand)
  | minmax (mx : Bool) (xs : List Operand)
  | call (f : Operand) (args : List Operand)
structure SOper where
  dst : Option Nat
  op : SOp
  guard : Option (Nat × Bool)
  after : List Nat := []
inductive SCode where
  | skip
  | region (ops : List SOper) (draw : Bool)
  | seq (a b : SCode)
  | cond (c : Operand) (x y : SCode)
  | block (id : Nat) (c : SCode)
  | loop (c : SCode)
  | exit (id : Nat)
  | ret
def nilK : Option AV → Option (Option Bool)
  | some (.v (.slice none _ _)) => some (some true)
  | some (.sl _ (_ :: _)) => some (some false)
  | some (.sl _ []) => some none
  | some (.own _ _ _ _) => some none
  | _ => none
structure E where
  pre : Prop
  val : AV
  upd : List (Nat × Ob)
def AV.one : AV → Bool
  | .v x => x.oneCell'
  | .agg _ => false
  | .tup _ => false
  | _ => true
mutual
def AV.pure : AV → Bool
  | .v _ => true
  | .sl _ _ => true
  | .pel _ _ => true
  | .agg cs => pureL cs
  | .tup cs => pureL cs
  | .fn _ cs => pureL cs
  | _ => false
def pureL : List AV → Bool
  | [] => true
  | c :: cs => c.pure && pureL cs
end
def oneL : List AV → Bool
  | [] => true
  | c :: cs => c.one && oneL cs
def cellsA : AV → Option (List AV)
  | .agg cs => if oneL cs then some cs else none
  | x => if x.one then some [x] else none
def splice (cs : List AV) (j : Nat) (ys : List AV) : List AV := cs.take j ++ (ys ++ cs.drop (j + ys.length))
def nth (xs : List (List AV)) (k : Nat) : List AV := xs[k]?.getD []
def sbin : BinOp → Value → Value → Option Value
  | .add, .int k a, .int k' b => if k = k' then some (.int k (k.wrap (a + b))) else none
  | .sub, .int k a, .int k' b => if k = k' then some (.int k (k.wrap (a - b))) else none
  | .mul, .int k a, .int k' b => if k = k' then some (.int k (k.wrap (a * b))) else none
  | .and, .int k a, .int k' b => if k = k' then some (.int k (bits .and k a b)) else none
  | .or, .int k a, .int k' b => if k = k' then some (.int k (bits .or k a b)) else none
  | .xor, .int k a, .int k' b => if k = k' then some (.int k (bits .xor k a b)) else none
  | .eql, .int k a, .int k' b => if k = k' then some (.bool (a == b)) else none
  | .neq, .int k a, .int k' b => if k = k' then some (.bool (a != b)) else none
  | .lss, .int k a, .int k' b => if k = k' then some (.bool (decide (a < b))) else none
  | .leq, .int k a, .int k' b => if k = k' then some (.bool (decide (a ≤ b))) else none
  | .gtr, .int k a, .int k' b => if k = k' then some (.bool (decide (b < a))) else none
  | .geq, .int k a, .int k' b => if k = k' then some (.bool (decide (b ≤ a))) else none
  | .eql, .string a, .string b => some (.bool (a.toList == b.toList))
  | .neq, .string a, .string b => some (.bool (!(a.toList == b.toList)))
  | _, _, _ => none
def sbinP : BinOp → Value → Value → Option (Prop × Value)
  | .quo, .int k a, .int k' b => if k = k' then some (b ≠ 0, .int k (k.wrap (a.tdiv b))) else none
  | .rem, .int k a, .int k' b => if k = k' then some (b ≠ 0, .int k (a.tmod b)) else none
  | .shl, .int k a, .int _ b => some (0 ≤ b, .int k (k.wrap (a * 2 ^ (min b.toNat k.bits))))
  | .shr, .int k a, .int _ b => some (0 ≤ b, .int k (a.fdiv (2 ^ (min b.toNat k.bits))))
  | .add, .string a, .string b => some (a.size + b.size ≤ maxLen, .string (a ++ b))
  | _, _, _ => none
def eqCells : List Nat → List AV → List AV → Option Bool
  | [], [], [] => some true
  | 0 :: ks, .v (.int k a) :: l, .v (.int k' b) :: l' => if k = k' then (match eqCells ks l l' with
    | some r => some ((a == b) && r)
    | none => none) else none
  | 1 :: ks, .v (.string a) :: l, .v (.string b) :: l' => match eqCells ks l l' with
    | some r => some ((a.toList == b.toList) && r)
    | none => none
  | 2 :: ks, .v (.bool a) :: l, .v (.bool b) :: l' => match eqCells ks l l' with
    | some r => some ((a == b) && r)
    | none => none
  | _, _, _ => none
def fillA : List AV → List (Nat × List AV) → Option (List AV)
  | cs, [] => some cs
  | cs, (off, ys) :: rest => if off + ys.length ≤ cs.length then fillA (splice cs off ys) rest else none
def partsA (t : List (Nat × AV)) : List (Nat × Nat × Operand) → Option (List (Nat × List AV))
  | [] => some []
  | (off, sz, x) :: rest => match ev t x, partsA t rest with
    | some y, some l => match cellsA y with
      | some ys => if ys.length = sz then some ((off, ys) :: l) else none
      | none => none
    | _, _ => none
def partsR (t : List (Nat × AV)) (sz : Nat) : List (Nat × Operand) → Option (List (Nat × List AV))
  | [] => some []
  | (i, x) :: rest => match ev t x, partsR t sz rest with
    | some y, some l => match cellsA y with
      | some ys => if ys.length = sz ∧ pureL ys = true then some ((i, ys) :: l) else none
      | none => none
    | _, _ => none
def fillR : List (List AV) → List (Nat × List AV) → Option (List (List AV))
  | xs, [] => some xs
  | xs, (i, y) :: rest => if i < xs.length then fillR (xs.set i y) rest else none
def ownC : AV → List Nat
  | .own b _ _ _ => [b]
  | _ => []
def ownL : List AV → List Nat
  | [] => []
  | c :: cs => ownC c ++ ownL cs
def ownD : AV → List Nat
  | .agg cs => ownL cs
  | x => ownC x
def frO (sz off len : Nat) : Option Ob → Option AV
  | some (.row _ sz' xs) => if sz = sz' ∧ off + len ≤ xs.length then some (.sl sz ((xs.drop off).take len)) else none
  | _ => none
def frC (h : List (Nat × Ob)) : AV → Option AV
  | .own b sz off len => frO sz off len (get h b)
  | x => if x.pure then some x else none
def frL (h : List (Nat × Ob)) : List AV → Option (List AV)
  | [] => some []
  | c :: cs => match frC h c, frL h cs with
    | some x, some l => some (x :: l)
    | _, _ => none
def partsK (t : List (Nat × AV)) (h : List (Nat × Ob)) (sz : Nat) : List (Nat × Operand) → Option (List (Nat × List AV) × List Nat)
  | [] => some ([], [])
  | (i, x) :: rest => match ev t x, partsK t h sz rest with
    | some y, some (l, bs) => match cellsA y with
      | some ys => match frL h ys with
        | some zs => if ys.length = sz then some ((i, zs) :: l, ownL ys ++ bs) else none
        | none => none
      | none => none
    | _, _ => none
def killK (bs : List Nat) : List (Nat × Ob) := bs.map fun b => (b, .dead)
def E.ok (x : AV) : Option E := some ⟨True, x, []⟩
def bytesOfL : List (List AV) → Option (List UInt8)
  | [] => some []
  | [.v (.int .u8 n)] :: l => match bytesOfL l with
    | some r => some (n.toNat.toUInt8 :: r)
    | none => none
  | _ => none
def bytesOf (xs : List (List AV)) : Option ByteArray := match bytesOfL xs with
  | some l => some ⟨l.toArray⟩
  | none => none
def contentsN (h : List (Nat × Ob)) (sz : Nat) : Option AV → Option (Prop × List (List AV))
  | some (.v (.slice none 0 0)) => some (True, [])
  | some (.sl sz' xs) => if sz = sz' then some (True, xs) else none
  | some (.own b sz' off len) => match get h b with
    | some (.row _ sz'' xs) => if sz = sz' ∧ sz = sz'' then some (off + len ≤ xs.length, (xs.drop off).take len) else none
    | _ => none
  | _ => none
def lookM : List (Value × AV) → IntKind → Int → Option (Option AV)
  | [], _, _ => some none
  | (.int q' n', x) :: es, q, n => if q = q' then (if n = n' then some (some x) else lookM es q n) else none
  | _, _, _ => none
def putM : List (Value × AV) → IntKind → Int → AV → Option (List (Value × AV))
  | [], q, n, y => some [(.int q n, y)]
  | (.int q' n', x) :: es, q, n, y => if q = q' then (if n = n' then some ((.int q' n', y) :: es) else match putM es q n y with
      | some r => some ((.int q' n', x) :: r)
      | none => none) else none
  | _, _, _, _ => none
def bound (t : List (Nat × AV)) (d : Nat) : Option Operand → Option Int
  | none => some d
  | some x => match ev t x with
    | some (.v (.int _ n)) => some n
    | _ => none
def asNat (x : AV) : Option (Prop × Nat) := match x with
  | .v (.int _ n) => some (0 ≤ n, n.toNat)
  | _ => none
def bytesAV (s : ByteArray) : List (List AV) := s.data.toList.map fun b => [.v (.int .u8 b.toNat)]
def eff (nm : Nat) (t : List (Nat × AV)) (h : List (Nat × Ob)) : SOp → Option E
  | .mov x => match ev t x with
    | some y => E.ok y
    | none => none
  | .pick c a b => match ev t c with
    | some (.v (.bool true)) => match ev t a with
      | some y => E.ok y
      | none => none
    | some (.v (.bool false)) => match ev t b with
      | some y => E.ok y
      | none => none
    | _ => none
  | .alloc zs => some ⟨True, .ptr nm 0, [(nm, .box (zs.map .v))]⟩
  | .box x => match ev t x with
    | some y => match cellsA y with
      | some ys => some ⟨True, .ptr nm 0, [(nm, .box ys)]⟩
      | none => none
    | none => none
  | .build zs parts => match partsA t parts with
    | some ps => match fillA (zs.map .v) ps with
      | some cs => E.ok (.agg cs)
      | none => none
    | none => none
  | .bslice e sz zs len parts => match partsR t sz parts with
    | some ps => match fillR (List.replicate len (zs.map .v)) ps with
      | some xs => some ⟨True, .own nm sz 0 len, [(nm, .row e sz xs)]⟩
      | none => none
    | none => match partsK t h sz parts with
      | some (ps, bs) => match fillR (List.replicate len (zs.map .v)) ps with
        | some xs => some ⟨True, .own nm sz 0 len, (nm, .row e sz xs) :: killK bs⟩
        | none => none
      | none => none
  | .load ag sz x => match ev t x with
    | some (.ptr b j) => match get h b with
      | some (.box cs) => if ag then (if j + sz ≤ cs.length then E.ok (.agg ((cs.drop j).take sz)) else none) else match cs[j]? with
        | some c => E.ok c
        | none => none
      | _ => none
    | some (.pel cs j) => if ag then (if j + sz ≤ cs.length then E.ok (.agg ((cs.drop j).take sz)) else none) else match cs[j]? with
        | some c => E.ok c
        | none => none
    | some (.rp b sz' k j) => match get h b with
      | some (.row _ sz'' xs) => if sz' = sz'' then
          (if ag then some ⟨k < xs.length ∧ j + sz ≤ sz'', .agg (((nth xs k).drop j).take sz), []⟩
            else some ⟨k < xs.length ∧ j < sz'', ((nth xs k)[j]?).getD (.v undef), []⟩) else none
      | _ => none
    | _ => none
  | .store sz x y => match ev t x, ev t y with
    | some (.ptr b j), some z => match get h b, cellsA z with
      | some (.box cs), some ys => if ys.length = sz ∧ j + sz ≤ cs.length then some ⟨True, .v undef, [(b, .box (splice cs j ys))]⟩ else none
      | _, _ => none
    | some (.rp b sz' k j), some z => match get h b, cellsA z with
      | some (.row e sz'' xs), some ys => if sz' = sz'' ∧ ys.length = sz ∧ pureL ys = true then
          some ⟨k < xs.length ∧ j + sz ≤ sz'', .v undef, [(b, .row e sz'' (xs.set k (splice (nth xs k) j ys)))]⟩ else none
      | _, _ => none
    | _, _ => none
  | .nilc x => match ev t x with
    | some (.ptr b j) => match get h b with
      | some (.box _) => E.ok (.ptr b j)
      | _ => none
    | some (.pel cs j) => E.ok (.pel cs j)
    | some (.fn f cs) => if f < 2000000 then E.ok (.fn f cs) else none
    | _ => none
  | .bin op x y => match ev t x, ev t y with
    | some (.v a), some (.v b) => match sbin op a b with
      | some c => E.ok (.v c)
      | none => match sbinP op a b with
        | some (p, c) => some ⟨p, .v c, []⟩
        | none => none
    | _, _ => none
  | .eqs neg ks x y => match ev t x, ev t y with
    | some (.agg a), some (.agg b) => match eqCells ks a b with
      | some c => E.ok (.v (.bool (if neg then !c else c)))
      | none => none
    | _, _ => none
  | .eqb neg x y => match ev t x, ev t y with
    | some (.v (.bool a)), some (.v (.bool b)) => E.ok (.v (.bool (if neg then !(a == b) else (a == b))))
    | _, _ => none
  | .un op x => match op, ev t x with
    | .not, some (.v (.bool b)) => E.ok (.v (.bool !b))
    | .neg, some (.v (.int k n)) => E.ok (.v (.int k (k.wrap (0 - n))))
    | _, _ => none
  | .conv k x => match ev t x with
    | some (.v (.int _ n)) => E.ok (.v (.int k (k.wrap n)))
    | _ => none
  | .b2s x => match contentsN h 1 (ev t x) with
    | some (p, xs) => match bytesOf xs with
      | some s => some ⟨p, .v (.string s), []⟩
      | none => none
    | none => none
  | .mkfn f caps => match evL t caps with
    | some cs => if f < 1000000 then E.ok (.fn f cs) else none
    | none => none
  | .mkmfn f first => match evL t first with
    | some cs => if f < 1000000 then E.ok (.fn (f + 1000000) cs) else none
    | none => none
  | .mkmap => some ⟨True, .mp nm, [(nm, .map [])]⟩
  | .look z m k => match ev t m, ev t k with
    | some (.mp b), some (.v (.int q n)) => match get h b with
      | some (.map es) => match lookM es q n with
        | some r => E.ok (r.getD (.v z))
        | none => none
      | _ => none
    | _, _ => none
  | .look2 z m k => match ev t m, ev t k with
    | some (.mp b), some (.v (.int q n)) => match get h b with
      | some (.map es) => match lookM es q n with
        | some r => E.ok (.tup [r.getD (.v z), .v (.bool r.isSome)])
        | none => none
      | _ => none
    | _, _ => none
  | .mput m k x => match ev t m, ev t k, ev t x with
    | some (.mp b), some (.v (.int q n)), some y => match get h b with
      | some (.map es) => match putM es q n y with
          | some es' => some ⟨True, .v undef, [(b, .map es')]⟩
          | none => none
      | _ => none
    | _, _, _ => none
  | .mkslice e sz bytes zs l c => match ev t l, ev t c with
    | some (.v (.int _ n)), some (.v (.int _ m)) => some ⟨0 ≤ n ∧ n = m ∧ n * bytes ≤ 140737488355328 ∧ n ≤ 9223372036854775807, .own nm sz 0 n.toNat, [(nm, .row e sz (List.replicate n.toNat (zs.map .v)))]⟩
    | _, _ => none
  | .app e sz bytes _zs s x => match ev t s, contentsN h sz (ev t x) with
    | some (.v (.slice none 0 0)), some (p, news) => some ⟨p ∧ news.length * bytes ≤ 140737488355328 ∧ news.length ≤ maxLen, .own nm sz 0 news.length, [(nm, .row e sz news)]⟩
    | some (.fn 2000000 [.sl sz' xs]), some (p, news) => if sz = sz' then
        (if 0 < news.length then some ⟨p ∧ (xs.length + news.length) * bytes ≤ 140737488355328 ∧ xs.length + news.length ≤ maxLen, .own nm sz 0 (xs.length + news.length), [(nm, .row e sz (xs ++ news))]⟩
        else some ⟨p, .sl sz xs, []⟩) else none
    | some (.own b sz' off len), some (p, news) => match get h b with
      | some (.row e' sz'' xs) => if sz = sz' ∧ sz = sz'' ∧ e = e' then
          (if off + len + news.length ≤ xs.length then some ⟨p, .own b sz off (len + news.length), [(b, .row e sz (xs.take (off + len) ++ (news ++ xs.drop (off + len + news.length))))]⟩
          else some ⟨p ∧ (len + news.length) * bytes ≤ 140737488355328 ∧ len + news.length ≤ maxLen ∧ off + len ≤ xs.length, .own nm sz 0 (len + news.length), [(nm, .row e sz ((xs.drop off).take len ++ news)), (b, .dead)]⟩) else none
      | _ => none
    | _, _ => none
  | .slice sz x lo hi mx => match mx, ev t x, bound t 0 lo with
    | none, some (.sl sz' xs), some l => match bound t xs.length hi with
      | some r => if sz = sz' then some ⟨0 ≤ l ∧ l ≤ r ∧ r ≤ xs.length, .sl sz ((xs.take r.toNat).drop l.toNat), []⟩ else none
      | none => none
    | none, some (.own b sz' off len), some l => match get h b, bound t len hi with
      | some (.row _ sz'' xs), some r => if sz = sz' then some ⟨0 ≤ l ∧ l ≤ r ∧ (r ≤ len ∨ (0 < sz ∧ sz = sz'' ∧ off + r.toNat ≤ xs.length)), .own b sz' (off + l.toNat) (r.toNat - l.toNat), []⟩ else none
      | _, _ => none
    | none, some (.v (.slice none 0 0)), some l => match bound t 0 hi with
      | some r => some ⟨l = 0 ∧ r = 0, .v (.slice none 0 0), []⟩
      | none => none
    | some m, some (.sl sz' xs), some l => match hi with
      | some y => match ev t y, ev t m with
        | some (.v (.int _ r)), some (.v (.int _ c)) => if sz = sz' then some ⟨l = 0 ∧ r = c ∧ r = xs.length, .fn 2000000 [.sl sz xs], []⟩ else none
        | _, _ => none
      | none => none
    | some m, some (.v (.slice none 0 0)), some l => match hi with
      | some y => match ev t y, ev t m with
        | some (.v (.int _ r)), some (.v (.int _ c)) => some ⟨l = 0 ∧ r = 0 ∧ c = 0, .v (.slice none 0 0), []⟩
        | _, _ => none
      | none => none
    | some m, some (.own b sz' off len), some l => match hi with
      | some y => match get h b, ev t y, ev t m with
        | some (.row _ _ _), some (.v (.int _ r)), some (.v (.int _ c)) => if sz = sz' then some ⟨0 ≤ l ∧ l ≤ r ∧ r ≤ c ∧ c ≤ len, .own nm sz' 0 0, [(nm, .dead)]⟩ else none
        | _, _, _ => none
      | none => none
    | _, _, _ => none
  | .sarr n sz x => match ev t x with
    | some (.ptr b 0) => match get h b with
      | some (.box cs) => if cs.length = n * sz ∧ 0 < n ∧ 4 ≤ b then E.ok (.own b sz 0 n) else none
      | _ => none
    | _ => none
  | .sslice x lo hi => match ev t x, bound t 0 lo with
    | some (.v (.string s)), some l => match bound t s.size hi with
      | some r => some ⟨0 ≤ l ∧ l ≤ r ∧ r ≤ s.size, .v (.string (s.extract l.toNat r.toNat)), []⟩
      | none => none
    | _, _ => none
  | .idxs x i => match ev t x, ev t i with
    | some (.v (.string s)), some (.v (.int _ n)) => some ⟨0 ≤ n ∧ n < s.size, .v (.int .u8 (s.data[n.toNat]?.getD 0).toNat), []⟩
    | _, _ => none
  | .idx ag len sz x i => match ev t x, ev t i with
    | some (.agg cs), some (.v (.int _ n)) => if ag then some ⟨0 ≤ n ∧ n < len ∧ n.toNat * sz + sz ≤ cs.length, .agg ((cs.drop (n.toNat * sz)).take sz), []⟩
      else match cs[n.toNat * sz]? with
        | some c => some ⟨0 ≤ n ∧ n < len, c, []⟩
        | none => none
    | _, _ => none
  | .cap x => match ev t x with
    | some (.v (.slice none _ c)) => E.ok (.v (.int .i64 c))
    | _ => none
  | .appz e sz bytes zs s x => match ev t s, ev t x with
    | some (.v (.slice none 0 0)), some (.v (.int _ n)) => some ⟨0 < n ∧ n * bytes ≤ 140737488355328 ∧ n ≤ 9223372036854775807, .own nm sz 0 n.toNat, [(nm, .row e sz (List.replicate n.toNat (zs.map .v)))]⟩
    | _, _ => none
  | .clr sz zs x => match ev t x with
    | some (.own b sz' off len) => match get h b with
      | some (.row e sz'' xs) => if sz = sz' ∧ sz = sz'' then some ⟨off + len ≤ xs.length, .v undef, [(b, .row e sz (xs.take off ++ (List.replicate len (zs.map .v) ++ xs.drop (off + len))))]⟩ else none
      | _ => none
    | _ => none
  | .copy sz d x => match ev t d, contentsN h sz (ev t x) with
    | some (.own b sz' off len), some (p, ys) => match get h b with
      | some (.row e sz'' xs) => if sz = sz' ∧ sz = sz'' then some ⟨p ∧ off + len ≤ xs.length, .v (.int .i64 (Int.ofNat (min len ys.length))), [(b, .row e sz (xs.take off ++ (ys.take len ++ xs.drop (off + min len ys.length))))]⟩ else none
      | _ => none
    | _, _ => none
  | .minmax mx xs => match evL t xs with
    | some [.v (.int k a), .v (.int k' b)] => if k = k' then E.ok (.v (.int k (if mx then max a b else min a b))) else none
    | _ => none
  | .faddr off x => match ev t x with
    | some (.ptr b j) => match get h b with
      | some (.box _) => E.ok (.ptr b (j + off))
      | _ => none
    | some (.rp b sz k j) => match get h b with
      | some (.row _ _ xs) => some ⟨k < xs.length, .rp b sz k (j + off), []⟩
      | _ => none
    | some (.pel cs j) => E.ok (.pel cs (j + off))
    | _ => none
  | .fld ag off sz x => match ev t x with
    | some (.agg cs) => if ag then (if off + sz ≤ cs.length then E.ok (.agg ((cs.drop off).take sz)) else none) else match cs[off]? with
      | some c => E.ok c
      | none => none
    | _ => none
  | .iaddr sz x i => match ev t x, ev t i with
    | some (.sl sz' xs), some (.v (.int _ n)) => if sz = sz' then some ⟨0 ≤ n ∧ n < xs.length, .pel (nth xs n.toNat) 0, []⟩ else none
    | some (.own b sz' off len), some (.v (.int _ n)) => match get h b with
      | some (.row _ sz'' _) => if sz = sz' ∧ sz = sz'' then some ⟨0 ≤ n ∧ n < len, .rp b sz' (off + n.toNat) 0, []⟩ else none
      | _ => none
    | _, _ => none
  | .iaddrA len sz x i => match ev t x, ev t i with
    | some (.ptr b j), some (.v (.int _ n)) => match get h b with
      | some (.box _) => some ⟨0 ≤ n ∧ n < len, .ptr b (j + n.toNat * sz), []⟩
      | _ => none
    | _, _ => none
  | .slen x => match ev t x with
    | some (.v (.string s)) => E.ok (.v (.int .i64 s.size))
    | _ => none
  | .len x => match ev t x with
    | some (.v (.slice _ n _)) => E.ok (.v (.int .i64 n))
    | some (.sl _ xs) => E.ok (.v (.int .i64 xs.length))
    | some (.own b _ _ n) => match get h b with
      | some (.row _ _ _) => E.ok (.v (.int .i64 n))
      | _ => none
    | _ => none
  | .ext i x => match ev t x with
    | some (.tup cs) => match cs[i]? with
      | some c => E.ok c
      | none => none
    | _ => none
  | _ => none
end Go.Eng
namespace Go.Eng
open Go
def zerosOf (P : Program) (t : TypeId) : Option (List Value) :=
  match P.info? t with
  | some i => match i.zero with
    | some z => some z.cells.toList
    | none => none
  | none => none
def sizeP (P : Program) (t : TypeId) : Option Nat := match P.info? t with
  | some i => some i.size
  | none => none
def bytesP (P : Program) (t : TypeId) : Option Nat := match P.info? t with
  | some i => some i.bytes
  | none => none
def aggP (P : Program) (t : TypeId) : Option Bool := match P.underlying t with
  | some (.struct _) => some true
  | some (.array _ _) => some true
  | some _ => some false
  | none => none
def zeroVal (P : Program) (t : TypeId) : Option Value := match P.info? t with
  | some i => i.zero
  | none => none
def stripParts (P : Program) (fs : Array Field) : List (Nat × Operand) → Option (List (Nat × Nat × Operand))
  | [] => some []
  | (i, x) :: l => match fs[i]? with
    | some f => match sizeP P f.type with
      | some sz => match stripParts P fs l with
        | some r => some ((f.offset, sz, x) :: r)
        | none => none
      | none => none
    | none => none
def kindsOf (P : Program) : List Field → Nat → Option (List Nat)
  | [], _ => some []
  | f :: fs, i => if f.offset = i ∧ f.name ≠ "_" then match P.underlying f.type, kindsOf P fs (i + 1) with
      | some (.int _), some ks => some (0 :: ks)
      | some .string, some ks => some (1 :: ks)
      | some .bool, some ks => some (2 :: ks)
      | _, _ => none else none
def kinds2 (P : Program) : List Field → Nat → Option (List Nat)
  | [], _ => some []
  | f :: fs, i => if f.offset = i ∧ f.name ≠ "_" then match P.underlying f.type with
      | some (.int _) => (kinds2 P fs (i + 1)).map (0 :: ·)
      | some .string => (kinds2 P fs (i + 1)).map (1 :: ·)
      | some .bool => (kinds2 P fs (i + 1)).map (2 :: ·)
      | some (.struct gs) => match kindsOf P gs.toList 0 with
        | some k1 => if P.stoodInHeld f.type = false ∧ sizeP P f.type = some k1.length then (kinds2 P fs (i + k1.length)).map (k1 ++ ·) else none
        | none => none
      | _ => none else none
def strip (P : Program) (o : Oper) : Option SOp :=
  match o.op with
  | .move x => some (.mov x)
  | .assign x => some (.mov x)
  | .pick c a b => some (.pick c a b)
  | .alloc e => match zerosOf P e with
    | some zs => some (.alloc zs)
    | none => none
  | .box _ x => some (.box x)
  | .build t parts => match P.underlying t with
    | some (.struct fs) => match zerosOf P t with
      | some zs => match stripParts P fs parts.toList with
        | some ps => if (fs.toList.all fun f => (sizeP P f.type).isSome) = true then some (.build zs ps) else none
        | none => none
      | none => none
    | some (.array _ e) => match zerosOf P t with
      | some zs => match sizeP P e with
        | some sz => some (.build zs (parts.toList.map fun p => (p.1 * sz, sz, p.2)))
        | none => none
      | none => none
    | _ => none
  | .buildSlice t len parts => match P.underlying t with
    | some (.slice e) => match zerosOf P e with
      | some zs => match sizeP P e with
        | some sz => if zs.length = sz ∧ 0 < sz ∧ len * sz ≤ 16777216 ∧ zs.all Value.oneCell' = true then some (.bslice e sz zs len parts.toList) else none
        | none => none
      | none => none
    | _ => none
  | .load t x => match aggP P t with
    | some ag => match sizeP P t with
      | some sz => some (.load ag sz x)
      | none => none
    | none => none
  | .store t a v => match sizeP P t with
    | some sz => some (.store sz a v)
    | none => none
  | .nilCheck x => some (.nilc x)
  | .binOp op t x y _ => match P.underlying t with
    | some (.struct fs) => match kinds2 P fs.toList 0 with
      | some ks => if P.stoodInHeld t = false ∧ P.eqGuardType P.depth t = false then match op with
        | .eql => some (.eqs false ks x y)
        | .neq => some (.eqs true ks x y)
        | _ => none else none
      | none => some .bad
    | some (.int _) => some (.bin op x y)
    | some .string => some (.bin op x y)
    | some .bool => match op with
      | .eql => some (.eqb false x y)
      | .neq => some (.eqb true x y)
      | _ => none
    | some (.slice _) => match op, y with
      | .eql, .const (.slice none _ _) => some (.isnil false x)
      | .neq, .const (.slice none _ _) => some (.isnil true x)
      | _, _ => none
    | _ => none
  | .unOp op _ x => some (.un op x)
  | .convert src dst x => match P.underlying src, P.underlying dst with
    | some (.int _), some (.int k) => some (.conv k x)
    | some .string, some (.slice e) => match P.underlying e with
      | some (.int .u8) => some (.s2b e x)
      | _ => none
    | some (.slice e), some .string => match P.underlying e with
      | some (.int .u8) => some (.b2s x)
      | _ => none
    | _, _ => none
  | .makeFunc (.func f) first caps => if first.size = 0 then some (.mkfn f caps.toList) else if caps.size = 0 then some (.mkmfn f first.toList) else none
  | .makeMap _ none => some .mkmap
  | .lookup t m k false => match P.underlying t with
    | some (.map kt et) => match P.underlying kt, zeroVal P et with
      | some (.int _), some z => some (.look z m k)
      | _, _ => none
    | _ => none
  | .lookup t m k true => match P.underlying t with
    | some (.map kt et) => match P.underlying kt, zeroVal P et with
      | some (.int _), some z => some (.look2 z m k)
      | _, _ => none
    | _ => none
  | .mapUpdate t m k x => match P.underlying t with
    | some (.map kt _) => match P.underlying kt with
      | some (.int _) => some (.mput m k x)
      | _ => none
    | _ => none
  | .insert t m k x => match P.underlying t with
    | some (.map kt _) => match P.underlying kt with
      | some (.int _) => some (.mput m k x)
      | _ => none
    | _ => none
  | .makeSlice t l c => match P.underlying t with
    | some (.slice e) => match zerosOf P e, sizeP P e, bytesP P e with
      | some zs, some sz, some by_ => if zs.length = sz ∧ 0 < sz ∧ zs.all Value.oneCell' = true then some (.mkslice e sz by_ zs l c) else none
      | _, _, _ => none
    | _ => none
  | .slice t x lo hi mx => match P.underlying t with
    | some (.slice e) => match sizeP P e with
      | some sz => some (.slice sz x lo hi mx)
      | none => none
    | some .string => match mx with
      | none => some (.sslice x lo hi)
      | some _ => none
    | some (.array n el) => match lo, hi, mx with
      | none, none, none => match sizeP P el with
        | some sz => some (.sarr n sz x)
        | none => none
      | _, _, _ => none
    | _ => none
  | .fieldAddr s x f => match P.underlying s with
    | some (.struct fs) => match fs[f]? with
      | some fd => match sizeP P fd.type with
        | some sz => if sz = 0 then none else some (.faddr fd.offset x)
        | none => none
      | none => none
    | _ => none
  | .field t x f => match P.underlying t with
    | some (.struct fs) => match fs[f]? with
      | some fd => match sizeP P fd.type, aggP P fd.type with
        | some sz, some ag => some (.fld ag fd.offset sz x)
        | _, _ => none
      | none => none
    | _ => none
  | .indexAddr t x i => match P.underlying t with
    | some (.slice e) => match sizeP P e with
      | some sz => some (.iaddr sz x i)
      | none => none
    | some (.array n e) => match sizeP P e with
      | some sz => some (.iaddrA n sz x i)
      | none => none
    | _ => none
  | .index t x i => match P.underlying t with
    | some (.array n e) => match sizeP P e, aggP P e with
      | some sz, some ag => some (.idx ag n sz x i)
      | _, _ => none
    | some .string => some (.idxs x i)
    | _ => none
  | .extract x i => some (.ext i x)
  | .makeInterface _ _ => some .bad
  | .panic _ => some .bad
  | .call c => match c.callee with
    | .value f => some (.call f c.args.toList)
    | .builtin .len => match c.argTypes[0]?, c.args[0]? with
      | some t, some x => match P.underlying t with
        | some (.slice _) => some (.len x)
        | some .string => some (.slen x)
        | _ => none
      | _, _ => none
    | .builtin .cap => match c.argTypes[0]?, c.args[0]? with
      | some t, some x => match P.underlying t with
        | some (.slice _) => some (.cap x)
        | _ => none
      | _, _ => none
    | .builtin .append => match c.argTypes.toList, c.args.toList with
      | [t, t'], [s, x] => if t = t' then match P.underlying t with
          | some (.slice e) => match zerosOf P e, sizeP P e, bytesP P e with
            | some zs, some sz, some by_ => if zs.length = sz ∧ 0 < sz then some (.app e sz by_ zs s x) else none
            | _, _, _ => none
          | _ => none else match P.underlying t, P.underlying t' with
          | some (.slice e), some (.int _) => match zerosOf P e, sizeP P e, bytesP P e with
            | some zs, some sz, some by_ => if zs.length = sz ∧ 0 < sz ∧ zs.all Value.oneCell' = true then some (.appz e sz by_ zs s x) else none
            | _, _, _ => none
          | _, _ => none
      | _, _ => none
    | .builtin .clear => match c.argTypes[0]?, c.args[0]? with
      | some t, some x => match P.underlying t with
        | some (.slice e) => match zerosOf P e, sizeP P e with
          | some zs, some sz => if zs.length = sz ∧ 0 < sz ∧ zs.all Value.oneCell' = true then some (.clr sz zs x) else none
          | _, _ => none
        | _ => none
      | _, _ => none
    | .builtin .max => some (.minmax true c.args.toList)
    | .builtin .min => some (.minmax false c.args.toList)
    | .builtin .copy => match c.argTypes[0]?, c.args.toList with
      | some t, [d, x] => match P.underlying t with
        | some (.slice e) => match sizeP P e with
          | some sz => if 0 < sz then some (.copy sz d x) else some .bad
          | none => some .bad
        | _ => some .bad
      | _, _ => some .bad
    | _ => none
  | _ => none
def stripOper (P : Program) (ops : Array Oper) (draw : Bool) (o : Oper) : Option SOper :=
  match strip P o with
  | some so => match o.guard with
    | none => some ⟨o.dst, so, none, if draw then (o.after.toList.filterMap fun e => match e.ground with | .textOnly _ => none | .gcOnly _ => none | _ => some e.on) else []⟩
    | some (j, w) => match ((ops[j]?).bind (·.dst)) with
      | some g => some ⟨o.dst, so, some (g, w), if draw then (o.after.toList.filterMap fun e => match e.ground with | .textOnly _ => none | .gcOnly _ => none | _ => some e.on) else []⟩
      | none => none
  | none => none
def stripOps (P : Program) (ops : Array Oper) (draw : Bool) : List Oper → Option (List SOper)
  | [] => some []
  | o :: l => match stripOper P ops draw o with
    | some so => match stripOps P ops draw l with
      | some sl => some (so :: sl)
      | none => none
    | none => none
def stripCode (P : Program) : Code → Option SCode
  | .skip => some .skip
  | .region _ ops draw => match stripOps P ops draw ops.toList with
    | some l => some (.region l draw)
    | none => none
  | .seq a b => match stripCode P a with
    | some a' => match stripCode P b with
      | some b' => some (.seq a' b')
      | none => none
    | none => none
  | .cond c x y => match stripCode P x with
    | some x' => match stripCode P y with
      | some y' => some (.cond c x' y')
      | none => none
    | none => none
  | .block id c => match stripCode P c with
    | some c' => some (.block id c')
    | none => none
  | .loop c => match stripCode P c with
    | some c' => some (.loop c')
    | none => none
  | .exit id => some (.exit id)
  | .ret => some .ret
  | _ => none
end Go.Eng
namespace Go.Eng
open Go
def Tm (C : Ctx) (ρ : Nat → Loc) (U : Nat → Prop) (w : World) (t : List (Nat × AV)) (a : Act) : Prop :=
  ∀ k x, get t k = some x → ∃ u, a.tmps[k]? = some u ∧ VR w (okc C ρ w) ρ U x u
def Run (C : Ctx) (ρ : Nat → Loc) (U : Nat → Prop) (h : List (Nat × Ob)) (w : World) (nm : Nat) (r : Result Next) (e : E) : Prop :=
  ∃ v w' ρ' U', (r = .ok (.value v) w' ∨ (v = undef ∧ r = .ok .skip w')) ∧ HR C ρ' U' (e.upd ++ h) w' ∧ VR w' (okc C ρ' w') ρ' U' e.val v ∧
    (∀ x u, VR w (okc C ρ w) ρ U x u → VR w' (okc C ρ' w') ρ' U' x u) ∧ (∀ b, U' b → U b ∨ b = nm)
section
variable {P : Program} {C : Ctx} {ρ : Nat → Loc} {U : Nat → Prop} {h : List (Nat × Ob)} {w : World} {nm : Nat} {t : List (Nat × AV)} {a : Act}
theorem Run.same (hr : HR C ρ U h w) {x : AV} {v : Value} (hv : VR w (okc C ρ w) ρ U x v) (p : Prop) : Run C ρ U h w nm (.ok (.value v) w) ⟨p, x, []⟩ :=
  ⟨v, w, ρ, U, .inl rfl, hr, hv, fun _ _ h => h, fun _ h => .inl h⟩
theorem Run.moved (hr : HR C ρ U h w) {b : Nat} {l : Loc} {w' : World} {ob : Ob} {x : AV} {v : Value} {r : Result Next} (hm : Moved C ρ U h w b l w')
    (hb : (∃ cs, get h b = some (.box cs)) → ∃ cs, ob = .box cs) (ho : ObR w' (okc C (up ρ b l) w') (up ρ b l) (addU U b) l ob)
    (hrun : r = .ok (.value v) w' ∨ (v = undef ∧ r = .ok .skip w')) (hv : VR w' (okc C (up ρ b l) w') (up ρ b l) (addU U b) x v) (hn : U b ∨ b = nm) (p : Prop) :
    Run C ρ U h w nm r ⟨p, x, [(b, ob)]⟩ :=
  ⟨v, w', _, _, hrun, hm.hr hr hb ho, hv, fun _ _ h => hm.vr h, fun k hk => hk.elim .inl fun e => by
    subst e; exact hn⟩
theorem ev_ok (ht : Tm C ρ U w t a) {x : Operand} {y : AV} (h : ev t x = some y) : VR w (okc C ρ w) ρ U y (a.eval x) := by
  cases x with
  | tmp k =>
    obtain ⟨u, h1, h2⟩ := ht k y h
    have : a.eval (.tmp k) = u := by
      simp only [Act.eval]
      have h3 := Array.getElem?_eq_some_iff.1 h1
      obtain ⟨hlt, he⟩ := h3
      simp [Array.getD, hlt, he]
    rw [this]; exact h2
  | const v => simp only [ev, Option.some.injEq] at h; subst h; exact .p (.v v)
  | global g => simp [ev] at h
  | func f =>
    simp only [ev] at h
    split at h
    · rename_i hf
      simp only [Option.some.injEq] at h; subst h
      have := VR.fn (w := w) (ok := okc C ρ w) (ρ := ρ) (U := U) (f := f) (cs := []) (vs := #[]) (Nat.lt_trans hf (by decide)) rfl (by simp)
      rw [funVal, if_pos hf] at this
      exact this
    · cases h
theorem evL_ok (ht : Tm C ρ U w t a) : ∀ {xs : List Operand} {ys : List AV}, evL t xs = some ys → VL w (okc C ρ w) ρ U ys (xs.map a.eval).toArray
  | [], ys, h => by simp only [evL, Option.some.injEq] at h; subst h; exact ⟨rfl, by simp⟩
  | x :: xs, ys, h => by
    simp only [evL] at h
    split at h
    · rename_i y ys' h1 h2
      simp only [Option.some.injEq] at h; subst h
      have ih := evL_ok ht h2
      refine ⟨by have := ih.1; simp at this; simp [this], fun i c u hc hu => ?_⟩
      cases i with
      | zero => simp at hc hu; subst hc; subst hu; exact ev_ok ht h1
      | succ i =>
        refine ih.2 i c u (by simpa using hc) ?_
        simpa using hu
    · cases h
theorem VP.of_pure_aux {w : World} {ok : Nat → Prop} {ρ : Nat → Loc} {U : Nat → Prop} {x : AV} {u : Value} (h : VR w ok ρ U x u) : x.pure = true → VP w ok x u := by
  have key : ∀ (cs : List AV), pureL cs = true → ∀ (i : Nat) (c : AV), cs[i]? = some c → c.pure = true := by
    intro cs
    induction cs with
    | nil => intro _ i c h; simp at h
    | cons d cs ih =>
      intro hp i c hc
      simp only [pureL, Bool.and_eq_true] at hp
      cases i with
      | zero => simp at hc; subst hc; exact hp.1
      | succ i => exact ih hp.2 i c (by simpa using hc)
  induction h with
  | p h => exact fun _ => h
  | agg hl _ ih => exact fun hp => .agg hl fun i c u hc hu => ih i c u hc hu (key _ (by simpa [AV.pure] using hp) i c hc)
  | tup hl _ ih => exact fun hp => .tup hl fun i c u hc hu => ih i c u hc hu (key _ (by simpa [AV.pure] using hp) i c hc)
  | fn hf hl _ ih => exact fun hp => .fn hf hl fun i c u hc hu => ih i c u hc hu (key _ (by simpa [AV.pure] using hp) i c hc)
  | own hu h => intro hp; simp [AV.pure] at hp
  | ptr a hu h => intro hp; simp [AV.pure] at hp
  | rp a hu h => intro hp; simp [AV.pure] at hp
  | mp a hu h => intro hp; simp [AV.pure] at hp
theorem pureL_get : ∀ (cs : List AV), pureL cs = true → ∀ (i : Nat) (c : AV), cs[i]? = some c → c.pure = true := by
  intro cs
  induction cs with
  | nil => intro _ i c h; simp at h
  | cons d cs ih =>
    intro hp i c hc
    simp only [pureL, Bool.and_eq_true] at hp
    cases i with
    | zero => simp at hc; subst hc; exact hp.1
    | succ i => exact ih hp.2 i c (by simpa using hc)
theorem oneL_get : ∀ (cs : List AV), oneL cs = true → ∀ (i : Nat) (c : AV), cs[i]? = some c → c.one = true := by
  intro cs
  induction cs with
  | nil => intro _ i c h; simp at h
  | cons d cs ih =>
    intro hp i c hc
    simp only [oneL, Bool.and_eq_true] at hp
    cases i with
    | zero => simp at hc; subst hc; exact hp.1
    | succ i => exact ih hp.2 i c (by simpa using hc)
theorem VR.one {x : AV} {u : Value} {ok : Nat → Prop} (h : VR w ok ρ U x u) (h1 : x.one = true) : u.oneCell' = true := by
  cases h with
  | p h =>
    cases h <;> first | rfl | (simp [AV.one] at h1; done) | (simpa [AV.one] using h1) | (unfold funVal; split <;> rfl) | (rename_i hc; rcases hc with rfl | ⟨a, n, rfl⟩ <;> rfl)
  | agg => simp [AV.one] at h1
  | tup => simp [AV.one] at h1
  | fn => unfold funVal; split <;> rfl
  | own hu h => obtain ⟨⟨a, n, c, e⟩, _⟩ := h; rw [e]; rfl
  | ptr => rfl
  | rp => rfl
  | mp => rfl
theorem cellsA_ok {ok : Nat → Prop} {x : AV} {u : Value} {cs : List AV} (h : VR w ok ρ U x u) (hc : cellsA x = some cs) :
    VL w ok ρ U cs u.cells ∧ (∀ (i : Nat) (v : Value), u.cells[i]? = some v → v.oneCell' = true) ∧ oneL cs = true := by
  by_cases hx : ∃ l, x = .agg l
  · obtain ⟨l, rfl⟩ := hx
    simp only [cellsA] at hc
    split at hc
    · rename_i h1
      simp only [Option.some.injEq] at hc; subst hc
      obtain ⟨vs, rfl, hv⟩ := h.agg_inv
      refine ⟨hv, fun i v hi => ?_, h1⟩
      simp only [Value.cells] at hi
      have hlt : i < l.length := by rw [hv.1]; exact (Array.getElem?_eq_some_iff.1 hi).1
      exact (hv.2 i _ v (List.getElem?_eq_getElem hlt) hi).one (oneL_get _ h1 i _ (List.getElem?_eq_getElem hlt))
    · cases hc
  · have hc' : (if x.one = true then some [x] else none) = some cs := by
      cases x <;> first | (exact absurd ⟨_, rfl⟩ hx) | exact hc
    split at hc'
    · rename_i h1
      simp only [Option.some.injEq] at hc'; subst hc'
      have h2 := h.one h1
      have h3 : u.cells = #[u] := by cases u <;> first | rfl | (simp [Value.oneCell'] at h2)
      rw [h3]
      refine ⟨⟨rfl, fun i c v hi hv => ?_⟩, fun i v hi => ?_, by simp [oneL, h1]⟩
      · cases i with
        | zero => simp at hi hv; subst hi; subst hv; exact h
        | succ i => simp at hi
      · cases i with
        | zero => simp at hi; subst hi; exact h2
        | succ i => simp at hi
    · cases hc'
end
end Go.Eng
namespace Go.Eng
open Go
section
variable {P : Program} {C : Ctx} {ρ : Nat → Loc} {U : Nat → Prop} {h : List (Nat × Ob)} {w : World} {nm : Nat} {t : List (Nat × AV)} {a : Act} {o : Oper} {e : E}
theorem s_mov (hr : HR C ρ U h w) (ht : Tm C ρ U w t a) {x : Operand} (ho : o.op = .move x ∨ o.op = .assign x) (he : eff nm t h (.mov x) = some e) :
    Run C ρ U h w nm ((execOp a.eval o).run P w) e := by
  simp only [eff] at he
  split at he
  · rename_i y hy
    simp only [E.ok, Option.some.injEq] at he; subst he
    have hv := ev_ok ht hy
    rcases ho with ho | ho <;> (simp only [execOp, ho, Sem.run_pure]; exact .same hr hv True)
  · cases he
theorem s_pick (hr : HR C ρ U h w) (ht : Tm C ρ U w t a) {c x y : Operand} (ho : o.op = .pick c x y) (he : eff nm t h (.pick c x y) = some e) :
    Run C ρ U h w nm ((execOp a.eval o).run P w) e := by
  simp only [eff] at he
  split at he
  · rename_i hc
    have hc' := (ev_ok ht hc).v_inv
    split at he
    · rename_i z hz
      simp only [E.ok, Option.some.injEq] at he; subst he
      simp only [execOp, ho, hc', asBool, Sem.run_bind, Sem.run_pure, Result.andThen_ok, if_true]
      exact .same hr (ev_ok ht hz) True
    · cases he
  · rename_i hc
    have hc' := (ev_ok ht hc).v_inv
    split at he
    · rename_i z hz
      simp only [E.ok, Option.some.injEq] at he; subst he
      simp only [execOp, ho, hc', asBool, Sem.run_bind, Sem.run_pure, Result.andThen_ok, Bool.false_eq_true, if_false]
      exact .same hr (ev_ok ht hz) True
    · cases he
  · cases he
theorem s_un (hr : HR C ρ U h w) (ht : Tm C ρ U w t a) {op : UnOp} {ty : TypeId} {x : Operand} (ho : o.op = .unOp op ty x) (he : eff nm t h (.un op x) = some e) :
    Run C ρ U h w nm ((execOp a.eval o).run P w) e := by
  simp only [eff] at he
  split at he
  · rename_i b hx
    have hc := (ev_ok ht hx).v_inv
    simp only [E.ok, Option.some.injEq] at he; subst he
    simp only [execOp, ho, hc, Op.unary, Sem.run_bind, Sem.run_pure, Result.andThen_ok]
    exact .same hr (.p (.v _)) True
  · rename_i k n hx
    have hc := (ev_ok ht hx).v_inv
    simp only [E.ok, Option.some.injEq] at he; subst he
    simp only [execOp, ho, hc, Op.unary, Op.intArith, Sem.run_bind, Sem.run_pure, Result.andThen_ok]
    exact .same hr (.p (.v _)) True
  · cases he
theorem s_ext (hr : HR C ρ U h w) (ht : Tm C ρ U w t a) {i : Nat} {x : Operand} (ho : o.op = .extract x i) (he : eff nm t h (.ext i x) = some e) :
    Run C ρ U h w nm ((execOp a.eval o).run P w) e := by
  simp only [eff] at he
  split at he
  · rename_i cs hx
    obtain ⟨vs, hu, hv⟩ := (ev_ok ht hx).tup_inv
    split at he
    · rename_i c hc
      simp only [E.ok, Option.some.injEq] at he; subst he
      have hlt : i < vs.size := by rw [← hv.1]; exact (List.getElem?_eq_some_iff.1 hc).1
      have hg : vs[i]? = some vs[i] := Array.getElem?_eq_getElem hlt
      simp only [execOp, ho, hu, Instr.extract, hg, Sem.run_bind, Sem.run_pure, Result.andThen_ok]
      exact .same hr (hv.2 i c _ hc hg) True
    · cases he
  · cases he
theorem sbin_int {op : BinOp} {ty : TypeId} {k k' : IntKind} {x y : Int} {z : Value} (hz : sbin op (.int k x) (.int k' y) = some z) (w : World) :
    (binOp op ty (.int k x) (.int k' y)).run P w = .ok z w := by
  by_cases hk : k = k'
  · subst hk
    cases op <;> simp [sbin] at hz <;> subst hz <;> first
      | (simp [binOp, Op.intArith]; done)
      | (simp [binOp, Op.intCmp]; done)
      | (simp [binOp, Op.intBits, bits]; done)
  · cases op <;> simp [sbin, hk] at hz
theorem sbin_run {op : BinOp} {ty : TypeId} {x y z : Value} (hz : sbin op x y = some z) (w : World) : (binOp op ty x y).run P w = .ok z w := by
  cases x with
  | int k n => cases y with
    | int k' m => exact sbin_int hz w
    | _ => cases op <;> simp [sbin] at hz
  | string s => cases y with
    | string s' => cases op <;> simp [sbin] at hz <;> subst hz <;> simp [binOp, Op.stringOp]
    | _ => cases op <;> simp [sbin] at hz
  | _ => cases op <;> simp [sbin] at hz
theorem sbinP_run {op : BinOp} {ty : TypeId} {x y z : Value} {p : Prop} (hz : sbinP op x y = some (p, z)) (hp : p) (w : World) : (binOp op ty x y).run P w = .ok z w := by
  cases x with
  | int k n => cases y with
    | int k' m =>
      by_cases hk : k = k'
      · subst hk
        cases op <;> simp [sbinP] at hz <;> obtain ⟨h1, rfl⟩ := hz <;> replace hp := h1.2 hp <;> first
          | (simp [binOp, Op.intDiv, hp]; done)
          | (simp [binOp, Op.shift, show ¬ m < 0 from by omega]; done)
      · cases op <;> simp [sbinP, hk] at hz <;> obtain ⟨h1, rfl⟩ := hz <;> replace hp := h1.2 hp <;> (simp [binOp, Op.shift, show ¬ m < 0 from by omega])
    | _ => cases op <;> simp [sbinP] at hz
  | string s => cases y with
    | string s' =>
      cases op <;> simp [sbinP] at hz
      obtain ⟨h1, rfl⟩ := hz
      replace hp := h1.2 hp
      unfold maxLen at hp
      simp [binOp, Op.stringOp]
      omega
    | _ => cases op <;> simp [sbinP] at hz
  | _ => cases op <;> simp [sbinP] at hz
theorem eqGuard_plain {op : BinOp} {ty : TypeId} {x y : Operand} {u v : Value} (hu : (∃ k n, u = .int k n) ∨ (∃ s, u = .string s) ∨ (∃ b, u = .bool b)) : eqGuard op ty x y u v = pure () := by
  rcases hu with ⟨k, n, rfl⟩ | ⟨s, rfl⟩ | ⟨b, rfl⟩
  · exact eqGuard_at_int ..
  · exact eqGuard_at_string ..
  · exact eqGuard_at_bool ..
theorem sbin_left {op : BinOp} {x y z : Value} (hz : sbin op x y = some z) : (∃ k n, x = .int k n) ∨ (∃ s, x = .string s) ∨ (∃ b, x = .bool b) := by
  cases x with
  | int k n => exact .inl ⟨k, n, rfl⟩
  | string s => exact .inr (.inl ⟨s, rfl⟩)
  | _ => cases op <;> simp [sbin] at hz
theorem sbinP_left {op : BinOp} {x y : Value} {z : Prop × Value} (hz : sbinP op x y = some z) : (∃ k n, x = .int k n) ∨ (∃ s, x = .string s) ∨ (∃ b, x = .bool b) := by
  cases x with
  | int k n => exact .inl ⟨k, n, rfl⟩
  | string s => exact .inr (.inl ⟨s, rfl⟩)
  | _ => cases op <;> simp [sbinP] at hz
theorem s_bin (hr : HR C ρ U h w) (ht : Tm C ρ U w t a) {op : BinOp} {ty ty' : TypeId} {x y : Operand} (ho : o.op = .binOp op ty x y ty') (he : eff nm t h (.bin op x y) = some e) (hp : e.pre) :
    Run C ρ U h w nm ((execOp a.eval o).run P w) e := by
  simp only [eff] at he
  split at he
  · rename_i u v hx hy
    have e1 := (ev_ok ht hx).v_inv
    have e2 := (ev_ok ht hy).v_inv
    split at he
    · rename_i z hz
      simp only [E.ok, Option.some.injEq] at he; subst he
      simp only [execOp, ho, e1, e2, eqGuard_plain (sbin_left hz), Sem.run_bind, Sem.run_pure, Result.andThen_ok, sbin_run hz]
      exact .same hr (.p (.v _)) True
    · split at he
      · rename_i p z hz
        simp only [Option.some.injEq] at he; subst he
        simp only [execOp, ho, e1, e2, eqGuard_plain (sbinP_left hz), Sem.run_bind, Sem.run_pure, Result.andThen_ok, sbinP_run hz hp]
        exact .same hr (.p (.v _)) p
      · cases he
  · cases he
theorem s_eqb (hr : HR C ρ U h w) (ht : Tm C ρ U w t a) {neg : Bool} {ty ty' : TypeId} {x y : Operand} (hty : P.underlying ty = some .bool)
    (ho : o.op = .binOp (if neg then .neq else .eql) ty x y ty') (he : eff nm t h (.eqb neg x y) = some e) :
    Run C ρ U h w nm ((execOp a.eval o).run P w) e := by
  simp only [eff] at he
  split at he
  · rename_i u v hx hy
    have e1 := (ev_ok ht hx).v_inv
    have e2 := (ev_ok ht hy).v_inv
    simp only [E.ok, Option.some.injEq] at he; subst he
    cases neg
    · simp only [Bool.false_eq_true, if_false] at ho ⊢
      simp only [execOp, ho, e1, e2, eqGuard_at_bool, Sem.run_bind, Sem.run_pure, Result.andThen_ok, run_eql_bool _ _ _ _ hty]
      exact .same hr (.p (.v _)) True
    · simp only [if_true] at ho ⊢
      have hb := run_eql_bool (P := P) w ty u v hty
      simp only [binOp, Sem.run_bind] at hb
      simp only [execOp, ho, e1, e2, eqGuard_at_bool, Sem.run_bind, Sem.run_pure, Result.andThen_ok, binOp]
      cases hq : (Op.equal ty (Value.bool u) (Value.bool v)).run P w with
      | ok r w' =>
        rw [hq] at hb
        simp only [Result.andThen_ok, Sem.run_pure, Result.ok.injEq, Value.bool.injEq] at hb
        obtain ⟨rfl, rfl⟩ := hb
        simp only [Result.andThen_ok, Sem.run_pure]
        exact .same hr (.p (.v _)) True
      | halt r w' => rw [hq] at hb; simp at hb
  · cases he
theorem s_conv (hr : HR C ρ U h w) (ht : Tm C ρ U w t a) {k k0 : IntKind} {src dst : TypeId} {x : Operand} (h1 : P.underlying src = some (.int k0)) (h2 : P.underlying dst = some (.int k))
    (ho : o.op = .convert src dst x) (he : eff nm t h (.conv k x) = some e) : Run C ρ U h w nm ((execOp a.eval o).run P w) e := by
  simp only [eff] at he
  split at he
  · rename_i k' n hx
    have e1 := (ev_ok ht hx).v_inv
    simp only [E.ok, Option.some.injEq] at he; subst he
    simp only [execOp, ho, e1, convert, Sem.run_bind, run_underlying h1, run_underlying h2, Result.andThen_ok, Conv.intToInt]
    exact .same hr (.p (.v _)) True
  · cases he
theorem s_mkfn (hr : HR C ρ U h w) (ht : Tm C ρ U w t a) {f : FuncId} {first caps : Array Operand} (hf : first.size = 0) (ho : o.op = .makeFunc (.func f) first caps)
    (he : eff nm t h (.mkfn f caps.toList) = some e) : Run C ρ U h w nm ((execOp a.eval o).run P w) e := by
  simp only [eff] at he
  split at he
  · rename_i cs hc
    split at he
    · rename_i hlt
      simp only [E.ok, Option.some.injEq] at he; subst he
      have hv := evL_ok ht hc
      have e1 : first.map a.eval = #[] := by rw [Array.eq_empty_of_size_eq_zero hf]; simp
      have e2 : caps.map a.eval = (caps.toList.map a.eval).toArray := by apply Array.ext'; simp
      simp only [execOp, ho, Instr.makeFunc, e1, e2, Sem.run_bind, Sem.run_pure, Result.andThen_ok]
      have := VR.fn (w := w) (ok := okc C ρ w) (ρ := ρ) (U := U) (f := f) (Nat.lt_trans hlt (by decide)) hv.1 hv.2
      rw [funVal, if_pos hlt] at this
      exact .same hr this True
    · cases he
  · cases he
theorem s_mkmfn (hr : HR C ρ U h w) (ht : Tm C ρ U w t a) {f : FuncId} {first caps : Array Operand} (hf : caps.size = 0) (ho : o.op = .makeFunc (.func f) first caps)
    (he : eff nm t h (.mkmfn f first.toList) = some e) : Run C ρ U h w nm ((execOp a.eval o).run P w) e := by
  simp only [eff] at he
  split at he
  · rename_i cs hc
    split at he
    · rename_i hlt
      simp only [E.ok, Option.some.injEq] at he; subst he
      have hv := evL_ok ht hc
      have e1 : caps.map a.eval = #[] := by rw [Array.eq_empty_of_size_eq_zero hf]; simp
      have e2 : first.map a.eval = (first.toList.map a.eval).toArray := by apply Array.ext'; simp
      simp only [execOp, ho, Instr.makeFunc, e1, e2, Sem.run_bind, Sem.run_pure, Result.andThen_ok]
      have := VR.fn (w := w) (ok := okc C ρ w) (ρ := ρ) (U := U) (f := f + 1000000) (Nat.add_lt_add_right hlt 1000000) hv.1 hv.2
      rw [funVal, if_neg (Nat.not_lt.mpr (Nat.le_add_left _ _)), Nat.add_sub_cancel] at this
      exact .same hr this True
    · cases he
  · cases he
end
end Go.Eng
namespace Go.Eng
open Go
section
variable {P : Program} {C : Ctx} {ρ : Nat → Loc} {U : Nat → Prop} {h : List (Nat × Ob)} {w : World} {nm : Nat} {t : List (Nat × AV)} {a : Act} {o : Oper} {e : E}
theorem sizeP_info {ty : TypeId} {sz : Nat} (hs : sizeP P ty = some sz) : ∃ i, P.info? ty = some i ∧ i.size = sz := by
  unfold sizeP at hs
  split at hs
  · rename_i i hi; simp only [Option.some.injEq] at hs; exact ⟨i, hi, hs⟩
  · cases hs
theorem run_sizeP {ty : TypeId} {sz : Nat} (hs : sizeP P ty = some sz) (w : World) : (sizeOf ty).run P w = .ok sz w := by
  obtain ⟨i, hi, rfl⟩ := sizeP_info hs
  simp [sizeOf, typeInfo, hi]
theorem run_isAgg {ty : TypeId} {ag : Bool} (hs : aggP P ty = some ag) (w : World) : (isAgg ty).run P w = .ok ag w := by
  unfold aggP at hs
  unfold isAgg
  cases hu : P.underlying ty with
  | none => rw [hu] at hs; cases hs
  | some d =>
    rw [hu] at hs
    rw [Sem.run_bind, run_underlying hu]
    cases d <;> simp_all
theorem add_plain (g o n : Nat) : (⟨g, o, none⟩ : Addr).add n = ⟨g, o + n, none⟩ := by
  unfold Addr.add
  split <;> simp_all
theorem run_load_at {ty : TypeId} {ag : Bool} {sz g o : Nat} (ha : aggP P ty = some ag) (hs : sizeP P ty = some sz) {cs : List AV} {vs : Array Value} {ok : Nat → Prop}
    (hl : cs.length = vs.size) (hc : ∀ j v, vs[j]? = some v → w.cell? ⟨g, o + j, none⟩ = some v) (hv : ∀ (j : Nat) (c : AV) (v : Value), cs[j]? = some c → vs[j]? = some v → VR w ok ρ U c v) :
    (ag = true → sz = cs.length → ∃ v, (loadVar ty ⟨g, o, none⟩).run P w = .ok v w ∧ VR w ok ρ U (.agg cs) v) ∧
    (ag = false → ∀ c, cs[0]? = some c → ∃ v, (loadVar ty ⟨g, o, none⟩).run P w = .ok v w ∧ VR w ok ρ U c v) := by
  refine ⟨fun h1 h2 => ?_, fun h1 c h0 => ?_⟩
  · subst h1
    refine ⟨.agg vs, ?_, .agg hl hv⟩
    have hL := run_loadCells_list (P := P) w ⟨g, o, none⟩ vs.toList (fun j v hj => by
      rw [add_plain]; exact hc j v (by simpa using hj))
    rw [h2, hl] at hs
    simp only [Array.length_toList, Array.toArray_toList] at hL
    simp only [loadVar, Sem.run_bind, run_isAgg ha, run_sizeP hs, Result.andThen_ok, if_true, hL, Sem.run_pure]
  · subst h1
    have hlt : 0 < vs.size := by rw [← hl]; exact (List.getElem?_eq_some_iff.1 h0).1
    have hg : vs[0]? = some vs[0] := Array.getElem?_eq_getElem hlt
    have := hc 0 _ hg
    simp only [Nat.add_zero] at this
    exact ⟨vs[0], by simp [loadVar, run_isAgg ha, this], hv 0 c _ h0 hg⟩
theorem cell_heap {g j : Nat} {cells : Array Value} {ty : TypeId} {fz : Nat × Nat} (hg : w.heap[g]? = some (.cells cells ty fz)) : w.cell? ⟨g, j, none⟩ = cells[j]? := cell_of_row w g j cells ty fz hg
theorem ranged {α : Type} (f : Nat → α) (m i : Nat) (v : α) : (((List.range m).map f).toArray)[i]? = some v ↔ ∃ _ : i < m, f i = v := by
  by_cases hi : i < m
  · simp [List.getElem?_range hi, hi]
  · simp [hi]
theorem s_load (hr : HR C ρ U h w) (ht : Tm C ρ U w t a) {ty : TypeId} {ag : Bool} {sz : Nat} {x : Operand} (ha : aggP P ty = some ag) (hs : sizeP P ty = some sz)
    (ho : o.op = .load ty x) (he : eff nm t h (.load ag sz x) = some e) (hp : e.pre) : Run C ρ U h w nm ((execOp a.eval o).run P w) e := by
  have key : ∀ (g off : Nat) (cs : List AV) (vs : Array Value), a.eval x = .pointer (some ⟨g, off, none⟩) → cs.length = vs.size →
      (∀ j v, vs[j]? = some v → w.cell? ⟨g, off + j, none⟩ = some v) → (∀ (j : Nat) (c : AV) (v : Value), cs[j]? = some c → vs[j]? = some v → VR w (okc C ρ w) ρ U c v) →
      (ag = true → sz = cs.length → ∀ p, Run C ρ U h w nm ((execOp a.eval o).run P w) ⟨p, .agg cs, []⟩) ∧ (ag = false → ∀ c, cs[0]? = some c → ∀ p, Run C ρ U h w nm ((execOp a.eval o).run P w) ⟨p, c, []⟩) := by
    intro g off cs vs hx hl hc hv
    have hR := run_load_at (P := P) ha hs hl hc hv
    refine ⟨fun h1 h2 p => ?_, fun h1 c h0 p => ?_⟩
    · obtain ⟨v, hrun, hvr⟩ := hR.1 h1 h2
      simp only [execOp, ho, hx, Instr.loadAt, Instr.sureAddr, Sem.run_bind, Sem.run_pure, Result.andThen_ok, hrun]
      exact .same hr hvr p
    · obtain ⟨v, hrun, hvr⟩ := hR.2 h1 c h0
      simp only [execOp, ho, hx, Instr.loadAt, Instr.sureAddr, Sem.run_bind, Sem.run_pure, Result.andThen_ok, hrun]
      exact .same hr hvr p
  simp only [eff] at he
  split at he
  · -- a pointer into a box
    rename_i b j hx
    obtain ⟨hu, ad, hax, had⟩ := (ev_ok ht hx).ptr_inv
    split at he
    · rename_i cs hb
      obtain ⟨g, off, n, ety, cells, h1, h2, h3, h4, h5⟩ := (hr.hp b _ hb).2
      have had' := had g off n h1
      subst had'
      have cellok : ∀ (k m : Nat), k + m ≤ cs.length → ∀ (i : Nat) (v : Value), (cells.extract (off + k) (off + k + m))[i]? = some v → w.cell? ⟨g, off + k + i, none⟩ = some v := by
        intro k m hkm i v hi
        rw [cell_heap h2]
        rw [Array.getElem?_extract] at hi
        split at hi
        · exact hi
        · cases hi
      have vrok : ∀ (k m : Nat), k + m ≤ cs.length → ∀ (i : Nat) (c : AV) (v : Value), ((cs.drop k).take m)[i]? = some c → (cells.extract (off + k) (off + k + m))[i]? = some v → VR w (okc C ρ w) ρ U c v := by
        intro k m hkm i c v hc hi
        rw [Array.getElem?_extract] at hi
        rw [List.getElem?_take] at hc
        split at hi
        · split at hc
          · rw [List.getElem?_drop] at hc
            obtain ⟨u, hu1, hu2⟩ := h5 (k + i) c hc
            rw [show off + (k + i) = off + k + i from by omega] at hu1
            rw [hi] at hu1
            cases hu1
            exact hu2
          · cases hc
        · cases hi
      have lenok : ∀ (k m : Nat), k + m ≤ cs.length → ((cs.drop k).take m).length = (cells.extract (off + k) (off + k + m)).size := by
        intro k m hkm
        simp
        omega
      split at he
      · rename_i hag
        split at he
        · rename_i hjs
          simp only [E.ok, Option.some.injEq] at he; subst he
          exact (key g (off + j) _ _ hax (lenok j sz hjs) (cellok j sz hjs) (vrok j sz hjs)).1 hag (by simp; omega) _
        · cases he
      · rename_i hag
        split at he
        · rename_i c hc
          simp only [E.ok, Option.some.injEq] at he; subst he
          have hlt : j < cs.length := (List.getElem?_eq_some_iff.1 hc).1
          exact (key g (off + j) _ _ hax (lenok j 1 (by omega)) (cellok j 1 (by omega)) (vrok j 1 (by omega))).2 (by simpa using hag) c (by simp [List.getElem?_take, hc]) _
        · cases he
    · cases he
  · -- a pointer into what is only read
    rename_i cs j hx
    have hvp := (ev_ok ht hx).pel_inv
    cases hq : a.eval x with
    | pointer ad =>
      rw [hq] at hvp
      cases hvp with
      | pel g off f hok hc hv =>
        have cellok : ∀ (k m : Nat), k + m ≤ cs.length → ∀ (i : Nat) (v : Value), (((List.range m).map fun i => f (k + i)).toArray)[i]? = some v → w.cell? ⟨g, off + k + i, none⟩ = some v := by
          intro k m hkm i v hi
          rw [ranged] at hi
          obtain ⟨hi1, rfl⟩ := hi
          have := hc (k + i) _ (List.getElem?_eq_getElem (by omega))
          rw [show off + k + i = off + (k + i) from by omega]
          exact this
        have vrok : ∀ (k m : Nat), k + m ≤ cs.length → ∀ (i : Nat) (c : AV) (v : Value), ((cs.drop k).take m)[i]? = some c → (((List.range m).map fun i => f (k + i)).toArray)[i]? = some v → VR w (okc C ρ w) ρ U c v := by
          intro k m hkm i c v hcc hi
          rw [ranged] at hi
          obtain ⟨hi1, rfl⟩ := hi
          rw [List.getElem?_take, if_pos hi1, List.getElem?_drop] at hcc
          exact .p (hv _ _ hcc)
        split at he
        · rename_i hag
          split at he
          · rename_i hjs
            simp only [E.ok, Option.some.injEq] at he; subst he
            exact (key g (off + j) _ _ hq (by simp; omega) (cellok j sz hjs) (vrok j sz hjs)).1 hag (by simp; omega) _
          · cases he
        · rename_i hag
          split at he
          · rename_i c hcc
            simp only [E.ok, Option.some.injEq] at he; subst he
            have hlt : j < cs.length := (List.getElem?_eq_some_iff.1 hcc).1
            exact (key g (off + j) ((cs.drop j).take 1) _ hq (by simp; omega) (cellok j 1 (by omega)) (vrok j 1 (by omega))).2 (by simpa using hag) c (by simp [List.getElem?_take, hcc]) _
          · cases he
    | _ => rw [hq] at hvp; cases hvp
  · -- a pointer into a row
    rename_i b sz' k j hx
    obtain ⟨hu, ad, hax, had⟩ := (ev_ok ht hx).rp_inv
    split at he
    · rename_i ety sz'' xs hb
      split at he
      · rename_i hsz
        subst hsz
        have h0 := (hr.hp b _ hb).2
        have hk : k < xs.length := by
          split at he <;> (simp only [Option.some.injEq] at he; subst he; exact hp.1)
        rcases h0 with ⟨_, h0⟩ | ⟨g, off, n, cells, h1, h2, h3, h4, h5, h6⟩
        · subst h0; simp at hk
        · have had' := had g off n h1
          subst had'
          have hxk : xs[k]? = some (nth xs k) := by
            rw [List.getElem?_eq_getElem hk]
            simp [nth, List.getElem?_eq_getElem hk]
          have hlen := h5 k _ hxk
          have hroom : off + k * sz' + sz' ≤ cells.size := by
            have : (k + 1) * sz' ≤ xs.length * sz' := Nat.mul_le_mul_right _ hk
            rw [Nat.add_mul, Nat.one_mul] at this
            omega
          have cellok : ∀ (q m : Nat), q + m ≤ sz' → ∀ (i : Nat) (v : Value), (cells.extract (off + (k * sz' + q)) (off + (k * sz' + q) + m))[i]? = some v → w.cell? ⟨g, off + (k * sz' + q) + i, none⟩ = some v := by
            intro q m hkm i v hi
            rw [cell_heap h2]
            rw [Array.getElem?_extract] at hi
            split at hi
            · exact hi
            · cases hi
          have vrok : ∀ (q m : Nat), q + m ≤ sz' → ∀ (i : Nat) (c : AV) (v : Value), (((nth xs k).drop q).take m)[i]? = some c → (cells.extract (off + (k * sz' + q)) (off + (k * sz' + q) + m))[i]? = some v → VR w (okc C ρ w) ρ U c v := by
            intro q m hkm i c v hc hi
            rw [Array.getElem?_extract] at hi
            rw [List.getElem?_take] at hc
            split at hi
            · split at hc
              · rw [List.getElem?_drop] at hc
                obtain ⟨u, hu1, _, hu2⟩ := h6 k _ (q + i) c hxk hc
                rw [show off + (k * sz' + (q + i)) = off + (k * sz' + q) + i from by omega] at hu1
                rw [hi] at hu1
                cases hu1
                exact .p hu2
              · cases hc
            · cases hi
          split at he
          · rename_i hag
            simp only [Option.some.injEq] at he; subst he
            have hj := hp.2
            exact (key g _ _ _ hax (by simp [hlen]; omega) (cellok j sz hj) (vrok j sz hj)).1 hag (by simp [hlen]; omega) _
          · rename_i hag
            simp only [Option.some.injEq] at he; subst he
            have hj := hp.2
            have hc : (nth xs k)[j]? = some (((nth xs k)[j]?).getD (.v undef)) := by
              rw [List.getElem?_eq_getElem (by omega)]; rfl
            exact (key g _ (((nth xs k).drop j).take 1) _ hax (by simp [hlen]; omega) (cellok j 1 (by omega)) (vrok j 1 (by omega))).2 (by simpa using hag) _
              (by rw [List.getElem?_take]; simp; exact hc) _
      · cases he
    · cases he
  · cases he
end
end Go.Eng
namespace Go.Eng
open Go
section
variable {P : Program} {C : Ctx} {ρ : Nat → Loc} {U : Nat → Prop} {h : List (Nat × Ob)} {w : World} {nm : Nat} {t : List (Nat × AV)} {a : Act} {o : Oper} {e : E}
theorem box_at (hr : HR C ρ U h w) {b : Nat} {cs : List AV} (hb : get h b = some (.box cs)) : ∃ g off n ety cells, ρ b = .at g off n ∧ w.heap[g]? = some (.cells cells ety (0, 0)) ∧ off + n ≤ cells.size ∧ n = cs.length ∧
      ∀ j c, cs[j]? = some c → ∃ u, cells[off + j]? = some u ∧ VR w (okc C ρ w) ρ U c u := (hr.hp b _ hb).2
theorem row_at (hr : HR C ρ U h w) {b ety sz : Nat} {xs : List (List AV)} (hb : get h b = some (.row ety sz xs)) (hx : 0 < xs.length) :
    ∃ g off n cells, ρ b = .at g off n ∧ w.heap[g]? = some (.cells cells ety (0, 0)) ∧ off + n ≤ cells.size ∧ xs.length * sz ≤ n ∧
      (∀ (k : Nat) (x : List AV), xs[k]? = some x → x.length = sz) ∧
      ∀ (k : Nat) (x : List AV) (j : Nat) (c : AV), xs[k]? = some x → x[j]? = some c → ∃ u, cells[off + (k * sz + j)]? = some u ∧ u.oneCell' = true ∧ VP w (okc C ρ w) c u := by
  rcases (hr.hp b _ hb).2 with ⟨_, h0⟩ | h0
  · subst h0; simp at hx
  · exact h0
theorem s_faddr (hr : HR C ρ U h w) (ht : Tm C ρ U w t a) {ty : TypeId} {fs : Array Field} {fi sz : Nat} {fd : Field} {x : Operand} (h1 : P.underlying ty = some (.struct fs))
    (h2 : fs[fi]? = some fd) (h3 : sizeP P fd.type = some sz) (h4 : sz ≠ 0) (ho : o.op = .fieldAddr ty x fi) (he : eff nm t h (.faddr fd.offset x) = some e) (hp : e.pre) :
    Run C ρ U h w nm ((execOp a.eval o).run P w) e := by
  have run : ∀ g off, a.eval x = .pointer (some ⟨g, off, none⟩) → (execOp a.eval o).run P w = .ok (.value (.pointer (some ⟨g, off + fd.offset, none⟩))) w := by
    intro g off hx
    simp only [execOp, ho, hx, Instr.fieldAt, Sem.run_bind, run_underlying h1, h2, Instr.sureAddr, Sem.run_pure, Result.andThen_ok, fieldPlace, run_sizeP h3, h4, if_false, add_plain]
  simp only [eff] at he
  split at he
  · rename_i b j hx
    obtain ⟨hu, ad, hax, had⟩ := (ev_ok ht hx).ptr_inv
    split at he
    · rename_i cs hb
      simp only [E.ok, Option.some.injEq] at he; subst he
      obtain ⟨g, off, n, _, _, hl, _⟩ := box_at hr hb
      have := had g off n hl
      subst this
      rw [run g (off + j) hax]
      refine .same hr (.ptr _ hu fun g' off' n' hl' => ?_) True
      rw [hl] at hl'; cases hl'
      rw [Nat.add_assoc]
    · cases he
  · rename_i b s k j hx
    obtain ⟨hu, ad, hax, had⟩ := (ev_ok ht hx).rp_inv
    split at he
    · rename_i ety s' xs hb
      simp only [Option.some.injEq] at he; subst he
      obtain ⟨g, off, n, _, hl, _⟩ := row_at hr hb (Nat.lt_of_le_of_lt (Nat.zero_le _) hp)
      have := had g off n hl
      subst this
      rw [run g _ hax]
      refine .same hr (.rp _ hu fun g' off' n' hl' => ?_) _
      rw [hl] at hl'; cases hl'
      congr 2; omega
    · cases he
  · rename_i cs j hx
    have hvp := (ev_ok ht hx).pel_inv
    cases hq : a.eval x with
    | pointer ad =>
      rw [hq] at hvp
      simp only [E.ok, Option.some.injEq] at he; subst he
      cases hvp with
      | pel g off f hok hc hv =>
        rw [run g (off + j) hq]
        rw [Nat.add_assoc]
        exact .same hr (.p (.pel g off f hok hc hv)) True
    | _ => rw [hq] at hvp; cases hvp
  · cases he
theorem s_fld (hr : HR C ρ U h w) (ht : Tm C ρ U w t a) {ty : TypeId} {fs : Array Field} {fi sz : Nat} {ag : Bool} {fd : Field} {x : Operand} (h1 : P.underlying ty = some (.struct fs))
    (h2 : fs[fi]? = some fd) (h3 : sizeP P fd.type = some sz) (h4 : aggP P fd.type = some ag) (ho : o.op = .field ty x fi) (he : eff nm t h (.fld ag fd.offset sz x) = some e) :
    Run C ρ U h w nm ((execOp a.eval o).run P w) e := by
  simp only [eff] at he
  split at he
  · rename_i cs hx
    obtain ⟨vs, hu, hv⟩ := (ev_ok ht hx).agg_inv
    split at he
    · rename_i hag
      split at he
      · rename_i hlen
        simp only [E.ok, Option.some.injEq] at he; subst he
        simp only [execOp, ho, hu, Instr.field, asAgg, part, Sem.run_bind, run_underlying h1, h2, run_isAgg h4, hag, run_sizeP h3, Sem.run_pure, Result.andThen_ok, if_true]
        refine .same hr (.agg ?_ fun i c u hc hi => ?_) True
        · have := hv.1; simp; omega
        · rw [Array.getElem?_extract] at hi
          rw [List.getElem?_take] at hc
          split at hi
          · split at hc
            · rw [List.getElem?_drop] at hc
              exact hv.2 _ _ _ hc hi
            · cases hc
          · cases hi
      · cases he
    · rename_i hag
      split at he
      · rename_i c hc
        simp only [E.ok, Option.some.injEq] at he; subst he
        have hlt : fd.offset < vs.size := by rw [← hv.1]; exact (List.getElem?_eq_some_iff.1 hc).1
        have hg : vs[fd.offset]? = some vs[fd.offset] := Array.getElem?_eq_getElem hlt
        have hag' : ag = false := by simpa using hag
        simp only [execOp, ho, hu, Instr.field, asAgg, part, Sem.run_bind, run_underlying h1, h2, run_isAgg h4, hag', hg, Sem.run_pure, Result.andThen_ok, Bool.false_eq_true, if_false]
        exact .same hr (hv.2 _ _ _ hc hg) True
      · cases he
  · cases he
theorem s_nilc (hr : HR C ρ U h w) (ht : Tm C ρ U w t a) {x : Operand} (ho : o.op = .nilCheck x) (he : eff nm t h (.nilc x) = some e) :
    Run C ρ U h w nm ((execOp a.eval o).run P w) e := by
  simp only [eff] at he
  split at he
  · rename_i b j hx
    have hvr := ev_ok ht hx
    obtain ⟨hu, ad, hax, had⟩ := hvr.ptr_inv
    split at he
    · rename_i cs hb
      simp only [E.ok, Option.some.injEq] at he; subst he
      obtain ⟨g, off, n, _, _, hl, _⟩ := box_at hr hb
      have := had g off n hl
      subst this
      rw [hax] at hvr
      simp only [execOp, ho, hax, Sem.run_pure]
      exact .same hr hvr True
    · cases he
  · rename_i cs j hx
    have hvr := ev_ok ht hx
    have hvp := hvr.pel_inv
    simp only [E.ok, Option.some.injEq] at he; subst he
    cases hq : a.eval x with
    | pointer ad =>
      rw [hq] at hvp hvr
      cases hvp with
      | pel g off f hok hc hv =>
        simp only [execOp, ho, hq, Sem.run_pure]
        exact .same hr hvr True
    | _ => rw [hq] at hvp; cases hvp
  · rename_i f cs hx
    have hvr := ev_ok ht hx
    split at he
    · rename_i hlt
      obtain ⟨vs, hu, hv⟩ := hvr.fn_inv hlt
      simp only [E.ok, Option.some.injEq] at he; subst he
      rw [hu] at hvr
      have hq : ∃ g a b, funVal f vs = .func (.func g) a b := by
        unfold funVal
        split
        · exact ⟨_, _, _, rfl⟩
        · exact ⟨_, _, _, rfl⟩
      obtain ⟨g, a1, b1, hq⟩ := hq
      rw [hq] at hu hvr
      simp only [execOp, ho, hu, Sem.run_pure]
      exact .same hr hvr True
    · cases he
  · cases he
theorem s_iaddrA (hr : HR C ρ U h w) (ht : Tm C ρ U w t a) {ty el : TypeId} {len sz : Nat} {x i : Operand} (h1 : P.underlying ty = some (.array len el))
    (h3 : sizeP P el = some sz) (ho : o.op = .indexAddr ty x i) (he : eff nm t h (.iaddrA len sz x i) = some e) (hp : e.pre) :
    Run C ρ U h w nm ((execOp a.eval o).run P w) e := by
  have run : ∀ (g off : Nat) (k : IntKind) (n : Int), a.eval x = .pointer (some ⟨g, off, none⟩) → a.eval i = .int k n → 0 ≤ n → n < len →
      (execOp a.eval o).run P w = .ok (.value (.pointer (some ⟨g, off + n.toNat * sz, none⟩))) w := by
    intro g off k n hx hi h0 hlt
    simp only [execOp, ho, hx, hi, Instr.indexAt, Instr.sureAddr, asIntOf, Sem.run_bind, run_underlying h1, Sem.run_pure, Result.andThen_ok, run_sizeP h3, add_plain, h0, hlt, and_self, Sem.run_ite, if_true]
  simp only [eff] at he
  split at he
  · rename_i b j k n hx hi
    obtain ⟨hu, ad, hax, had⟩ := (ev_ok ht hx).ptr_inv
    have hin := (ev_ok ht hi).v_inv
    split at he
    · rename_i cs hb
      simp only [Option.some.injEq] at he; subst he
      obtain ⟨h0, hlt⟩ := hp
      obtain ⟨g, off, n', _, _, hl, _⟩ := box_at hr hb
      have := had g off n' hl
      subst this
      rw [run g (off + j) k n hax hin h0 hlt]
      refine .same hr (.ptr _ hu fun g' off' n' hl' => ?_) _
      rw [hl] at hl'; cases hl'
      rw [Nat.add_assoc]
    · cases he
  · cases he
theorem s_iaddr (hr : HR C ρ U h w) (ht : Tm C ρ U w t a) {ty el : TypeId} {sz : Nat} {x i : Operand} (h1 : P.underlying ty = some (.slice el))
    (h3 : sizeP P el = some sz) (ho : o.op = .indexAddr ty x i) (he : eff nm t h (.iaddr sz x i) = some e) (hp : e.pre) :
    Run C ρ U h w nm ((execOp a.eval o).run P w) e := by
  have run : ∀ (g off len cap : Nat) (k : IntKind) (n : Int), a.eval x = .slice (some ⟨g, off, none⟩) len cap → a.eval i = .int k n → 0 ≤ n → n < len →
      (execOp a.eval o).run P w = .ok (.value (.pointer (some ⟨g, off + n.toNat * sz, none⟩))) w := by
    intro g off len cap k n hx hi h0 hlt
    simp only [execOp, ho, hx, hi, Instr.indexAt, asIntOf, Sem.run_bind, run_underlying h1, Sem.run_pure, Result.andThen_ok, run_sizeP h3, add_plain, h0, hlt, and_self, Sem.run_ite, if_true]
  simp only [eff] at he
  split at he
  · rename_i sz' xs k n hx hi
    have hvp := (ev_ok ht hx).sl_inv
    have hin := (ev_ok ht hi).v_inv
    split at he
    · rename_i hs
      subst hs
      simp only [Option.some.injEq] at he; subst he
      obtain ⟨h0, hlt⟩ := hp
      cases hq : a.eval x with
      | slice ad len cap =>
        rw [hq] at hvp
        cases hvp with
        | nilsl => simp at hlt; omega
        | sl ad len cap f hn hcap hok hl hc hv =>
          subst hn
          have hpos : 0 < xs.length := by omega
          obtain ⟨hsp, hok'⟩ := hok hpos
          obtain ⟨g, off, sp⟩ := ad
          simp only at hsp hc hok'
          subst hsp
          rw [run g off xs.length cap k n hq hin h0 hlt]
          have hlt' : n.toNat < xs.length := by omega
          have hxk : xs[n.toNat]? = some (nth xs n.toNat) := by
            rw [List.getElem?_eq_getElem hlt']; simp [nth, List.getElem?_eq_getElem hlt']
          have e0 : VP w (okc C ρ w) (.pel (nth xs n.toNat) 0) (.pointer (some ⟨g, off + n.toNat * sz + 0, none⟩)) :=
            .pel g (off + n.toNat * sz) (f n.toNat) hok' (fun j c hj => by
              have := (hc _ _ _ _ hxk hj).1
              rw [show off + n.toNat * sz + j = off + (n.toNat * sz + j) from by omega]
              exact this) (fun j c hj => hv _ _ _ _ hxk hj)
          exact .same hr (.p e0) _
      | _ => rw [hq] at hvp; cases hvp
    · cases he
  · rename_i b sz' off len k n hx hi
    have hin := (ev_ok ht hi).v_inv
    obtain ⟨hu, ⟨ad, len', cap', hsl⟩, hown⟩ := (ev_ok ht hx).own_inv
    split at he
    · rename_i ety sz'' xs hb
      split at he
      · rename_i hs
        obtain ⟨hs1, hs2⟩ := hs
        subst hs1; subst hs2
        simp only [Option.some.injEq] at he; subst he
        obtain ⟨h0, hlt⟩ := hp
        have hnil : ρ b ≠ .nil := by
          intro e; rw [e] at hown; simp only at hown; omega
        have hnd : ρ b ≠ .dead := by
          intro e
          rcases (hr.hp b _ hb).2 with ⟨e', _⟩ | ⟨_, _, _, _, e', _⟩ <;> rw [e] at e' <;> cases e'
        cases hl : ρ b with
        | dead => exact absurd hl hnd
        | nil => exact absurd hl hnil
        | «at» g o n' =>
          rw [hl] at hown
          simp only at hown
          rcases hown with ⟨hz, _⟩ | ⟨cap, hlc, hroom, hval⟩
          · omega
          · rw [run g (o + off * sz) len cap k n hval hin h0 hlt]
            refine .same hr (.rp _ hu fun g' off' n'' hl' => ?_) _
            rw [hl] at hl'; cases hl'
            congr 2
            rw [Nat.add_mul]; omega
      · cases he
    · cases he
  · cases he
theorem run_len {ty : TypeId} {x : Operand} {c : Call} {d : TypeDesc} {v : Value} {n : Nat} (h1 : P.underlying ty = some d) (hd : (∃ el, d = .slice el ∧ ∃ ad cap, v = .slice ad n cap) ∨ (d = .string ∧ ∃ s, v = .string s ∧ n = s.size))
    (hc : c.callee = .builtin .len) (h2 : c.argTypes[0]? = some ty) (h3 : c.args[0]? = some x) (ho : o.op = .call c) (hx : a.eval x = v) :
    (execOp a.eval o).run P w = .ok (.value (.int .i64 n)) w := by
  have h4 : (c.args.map a.eval)[0]? = some (a.eval x) := by simp [h3]
  have run1 : ∀ v, (Builtin.len_ c.argTypes o.type (c.args.map a.eval)).run P w = .ok v w → (execOp a.eval o).run P w = .ok (.value v) w := by
    intro v hv
    simp only [execOp, ho, resolve, hc, invoke, builtin, Sem.run_bind, Sem.run_pure, Result.andThen_ok, hv]
  rcases hd with ⟨el, rfl, ad, cap, rfl⟩ | ⟨rfl, s, rfl, rfl⟩
  · refine run1 _ ?_
    simp [Builtin.len_, h2, h3, hx, run_underlying h1, goInt]
  · refine run1 _ ?_
    simp [Builtin.len_, h2, h3, hx, run_underlying h1, goInt]
theorem s_slen (hr : HR C ρ U h w) (ht : Tm C ρ U w t a) {ty : TypeId} {x : Operand} {c : Call} (h1 : P.underlying ty = some .string)
    (hc : c.callee = .builtin .len) (h2 : c.argTypes[0]? = some ty) (h3 : c.args[0]? = some x) (ho : o.op = .call c) (he : eff nm t h (.slen x) = some e) :
    Run C ρ U h w nm ((execOp a.eval o).run P w) e := by
  simp only [eff] at he
  split at he
  · rename_i s hx
    have hv := (ev_ok ht hx).v_inv
    simp only [E.ok, Option.some.injEq] at he; subst he
    rw [run_len h1 (.inr ⟨rfl, s, rfl, rfl⟩) hc h2 h3 ho hv]
    exact .same hr (.p (.v _)) True
  · cases he
theorem s_len (hr : HR C ρ U h w) (ht : Tm C ρ U w t a) {ty el : TypeId} {x : Operand} {c : Call} (h1 : P.underlying ty = some (.slice el))
    (hc : c.callee = .builtin .len) (h2 : c.argTypes[0]? = some ty) (h3 : c.args[0]? = some x) (ho : o.op = .call c) (he : eff nm t h (.len x) = some e) :
    Run C ρ U h w nm ((execOp a.eval o).run P w) e := by
  simp only [eff] at he
  split at he
  · rename_i ad n cap hx
    have hv := (ev_ok ht hx).v_inv
    simp only [E.ok, Option.some.injEq] at he; subst he
    rw [run_len h1 (.inl ⟨el, rfl, ad, cap, rfl⟩) hc h2 h3 ho hv]
    exact .same hr (.p (.v _)) True
  · rename_i sz xs hx
    have hvp := (ev_ok ht hx).sl_inv
    simp only [E.ok, Option.some.injEq] at he; subst he
    have : ∃ ad cap, a.eval x = .slice ad xs.length cap := by
      generalize a.eval x = u at hvp
      cases hvp with
      | nilsl => exact ⟨none, 0, rfl⟩
      | sl ad n cap f hn => subst hn; exact ⟨_, _, rfl⟩
    obtain ⟨ad, cap, hv⟩ := this
    rw [run_len h1 (.inl ⟨el, rfl, ad, cap, rfl⟩) hc h2 h3 ho hv]
    exact .same hr (.p (.v _)) True
  · rename_i b sz off n hx
    obtain ⟨hu, ⟨ad, len', cap', hsl⟩, hown⟩ := (ev_ok ht hx).own_inv
    split at he
    · rename_i ety sz'' xs hb
      simp only [E.ok, Option.some.injEq] at he; subst he
      have : ∃ ad cap, a.eval x = .slice ad n cap := by
        cases hl : ρ b with
        | dead => rcases (hr.hp b _ hb).2 with ⟨e', _⟩ | ⟨_, _, _, _, e', _⟩ <;> rw [hl] at e' <;> cases e'
        | nil => rw [hl] at hown; simp only at hown; obtain ⟨rfl, hv⟩ := hown; exact ⟨_, _, hv⟩
        | «at» g o n' =>
          rw [hl] at hown
          simp only at hown
          rcases hown with ⟨rfl, _, hv | ⟨ad, hv⟩⟩ | ⟨cap, _, _, hv⟩
          · exact ⟨_, _, hv⟩
          · exact ⟨_, _, hv⟩
          · exact ⟨_, _, hv⟩
      obtain ⟨ad, cap, hv⟩ := this
      rw [run_len h1 (.inl ⟨el, rfl, ad, cap, rfl⟩) hc h2 h3 ho hv]
      exact .same hr (.p (.v _)) True
    · cases he
  · cases he
theorem cells_obR {w' : World} {ok : Nat → Prop} {ρ' : Nat → Loc} {U' : Nat → Prop} {cs : List AV} {cells : Array Value} {ety g : Nat} (hv : VL w' ok ρ' U' cs cells)
    (hg : w'.heap[g]? = some (.cells cells ety (0, 0))) : ObR w' ok ρ' U' (.at g 0 cs.length) (.box cs) :=
  ⟨g, 0, cs.length, ety, cells, rfl, hg, by have := hv.1; omega, rfl, fun j c hj => by
    have hlt : j < cells.size := by rw [← hv.1]; exact (List.getElem?_eq_some_iff.1 hj).1
    refine ⟨cells[j], ?_, hv.2 j c _ hj (Array.getElem?_eq_getElem hlt)⟩
    rw [Nat.zero_add]; exact Array.getElem?_eq_getElem hlt⟩
theorem moved_alloc (hr : HR C ρ U h w) (hn : ¬ U nm) (ob : Obj) {l : Loc} (hl : l = .nil ∨ ∃ o n, l = .at w.heap.size o n) : Moved C ρ U h w nm l (w.alloc ob) where
  os := rfl
  tape := rfl
  output := rfl
  size := by simp
  bl g hg _ := Go.RowKit.Below.heap_alloc w ob g hg
  way := .inr (.inr ⟨hn, hl.imp id fun ⟨o, n, e⟩ => ⟨w.heap.size, o, n, e, Nat.le_refl _, by simp⟩⟩)
theorem new_box (hr : HR C ρ U h w) (hn : ¬ U nm) {cs : List AV} {cells : Array Value} {ety : Nat} (hv : VL w (okc C ρ w) ρ U cs cells) {r : Result Next}
    (hrun : r = .ok (.value (.pointer (some ⟨w.heap.size, 0, none⟩))) (w.alloc (.cells cells ety))) (p : Prop) : Run C ρ U h w nm r ⟨p, .ptr nm 0, [(nm, .box cs)]⟩ := by
  have hm := moved_alloc (C := C) (ρ := ρ) (U := U) (h := h) hr hn (.cells cells ety) (l := .at w.heap.size 0 cs.length) (.inr ⟨0, cs.length, rfl⟩)
  refine .moved hr hm (fun _ => ⟨cs, rfl⟩) (cells_obR (ety := ety) ⟨hv.1, fun i c u h1 h2 => hm.vr (hv.2 i c u h1 h2)⟩ (heap_alloc_new w _)) (.inl hrun) ?_ (.inr rfl) p
  refine .ptr _ (.inr rfl) fun g o n hl => ?_
  simp only [up, if_true] at hl
  cases hl
  rfl
theorem s_alloc (hr : HR C ρ U h w) (hn : ¬ U nm) {el : TypeId} {zs : List Value} (hz : zerosOf P el = some zs) (ho : o.op = .alloc el) (he : eff nm t h (.alloc zs) = some e) :
    Run C ρ U h w nm ((execOp a.eval o).run P w) e := by
  simp only [eff, Option.some.injEq] at he; subst he
  unfold zerosOf at hz
  split at hz
  · rename_i i hi
    split at hz
    · rename_i z hiz
      simp only [Option.some.injEq] at hz; subst hz
      refine new_box hr hn (cells := z.cells) (ety := el) ⟨by simp, fun i c u h1 h2 => ?_⟩ ?_ True
      · simp only [List.getElem?_map] at h1
        rw [← Array.getElem?_toList] at h2
        rw [h2] at h1
        simp at h1; subst h1
        exact .p (.v _)
      · simp [execOp, ho, Instr.alloc, zeroValue, typeInfo, hi, hiz, newVar, newRow]
    · cases hz
  · cases hz
theorem s_box (hr : HR C ρ U h w) (ht : Tm C ρ U w t a) (hn : ¬ U nm) {el : TypeId} {x : Operand} (ho : o.op = .box el x) (he : eff nm t h (.box x) = some e) :
    Run C ρ U h w nm ((execOp a.eval o).run P w) e := by
  simp only [eff] at he
  split at he
  · rename_i y hx
    split at he
    · rename_i ys hy
      simp only [Option.some.injEq] at he; subst he
      obtain ⟨hv, _, _⟩ := cellsA_ok (ev_ok ht hx) hy
      refine new_box hr hn (ety := el) hv ?_ True
      simp [execOp, ho, Instr.box, newVar, newRow]
    · cases he
  · cases he
end
end Go.Eng
namespace Go.Eng
open Go
section
variable {P : Program} {C : Ctx} {ρ : Nat → Loc} {U : Nat → Prop} {h : List (Nat × Ob)} {w : World} {nm : Nat} {t : List (Nat × AV)} {a : Act} {o : Oper} {e : E}
theorem splice_get {α : Type} (cs ys : List α) (j i : Nat) (hl : j + ys.length ≤ cs.length) :
    (cs.take j ++ (ys ++ cs.drop (j + ys.length)))[i]? = if i < j then cs[i]? else if i < j + ys.length then ys[i - j]? else cs[i]? := by
  rw [List.getElem?_append, List.length_take, Nat.min_eq_left (by omega)]
  by_cases h1 : i < j
  · simp [h1]
  · rw [if_neg h1, if_neg h1, List.getElem?_append]
    by_cases h2 : i < j + ys.length
    · rw [if_pos (by omega), if_pos h2]
    · rw [if_neg (by omega), if_neg h2, List.getElem?_drop]
      congr 1; omega
theorem splice_length (cs ys : List AV) (j : Nat) (hl : j + ys.length ≤ cs.length) : (splice cs j ys).length = cs.length := by
  simp [splice]; omega
theorem heap_setRow_other (w : World) (g k : Nat) (cs : Array Value) (hk : k ≠ g) : (w.setRow g cs).heap[k]? = w.heap[k]? := by
  simp only [World.setRow, Array.getElem?_modify]
  rw [if_neg (fun e => hk e.symm)]
def pasted (cells : Array Value) (off : Nat) (vs : Array Value) : Array Value := (cells.toList.take off ++ (vs.toList ++ cells.toList.drop (off + vs.toList.length))).toArray
theorem pasted_size (cells : Array Value) (off : Nat) (vs : Array Value) (hf : off + vs.size ≤ cells.size) : (pasted cells off vs).size = cells.size := by
  simp [pasted]; omega
theorem pasted_get (cells : Array Value) (off : Nat) (vs : Array Value) (hf : off + vs.size ≤ cells.size) (i : Nat) :
    (pasted cells off vs)[i]? = if i < off then cells[i]? else if i < off + vs.size then vs[i - off]? else cells[i]? := by
  unfold pasted
  simp only [List.getElem?_toArray]
  rw [splice_get _ _ _ _ (by simpa using hf)]
  simp
theorem run_storeVar {ty : TypeId} {sz g off : Nat} {u : Value} {cells : Array Value} {ety : Nat} (hs : sizeP P ty = some sz) (hsz : u.cells.size = sz)
    (h1 : ∀ (i : Nat) (v : Value), u.cells[i]? = some v → v.oneCell' = true) (hg : w.heap[g]? = some (.cells cells ety (0, 0))) (hfit : off + sz ≤ cells.size) :
    (storeVar ty ⟨g, off, none⟩ u).run P w = .ok () (w.setRow g (pasted cells off u.cells)) := by
  have hst := run_storeCells_at P g off ety u.cells.toList 0 cells w hg (by simp; omega) (fun v hv => by
    obtain ⟨i, hi, rfl⟩ := List.mem_iff_getElem.1 hv
    exact h1 i _ (by simp at hi; simp [hi]))
  simp only [Nat.add_zero, List.append_assoc] at hst
  simp only [storeVar, Sem.run_bind, run_sizeP hs, Result.andThen_ok, hsz, ne_eq, not_true_eq_false, if_false, hst, pasted]
theorem s_store (hr : HR C ρ U h w) (ht : Tm C ρ U w t a) {ty : TypeId} {sz : Nat} {x y : Operand} (hs : sizeP P ty = some sz)
    (ho : o.op = .store ty x y) (he : eff nm t h (.store sz x y) = some e) (hp : e.pre) : Run C ρ U h w nm ((execOp a.eval o).run P w) e := by
  have runS : ∀ (g off : Nat) (w' : World), a.eval x = .pointer (some ⟨g, off, none⟩) → (storeVar ty ⟨g, off, none⟩ (a.eval y)).run P w = .ok () w' → (execOp a.eval o).run P w = .ok .skip w' := by
    intro g off w' hx hrun
    simp only [execOp, ho, hx, Instr.storeAt, Instr.sureAddr, Sem.run_bind, Sem.run_pure, Result.andThen_ok, hrun]
  have moved : ∀ (b g off n : Nat) (cells cells' : Array Value) (ety : Nat), U b → ρ b = .at g off n → w.heap[g]? = some (.cells cells ety (0, 0)) → Moved C ρ U h w b (.at g off n) (w.setRow g cells') := by
    intro b g off n cells cells' ety hu hl hg
    refine ⟨rfl, rfl, rfl, by simp, fun k hk hkb => ?_, .inl ⟨hu, hl.symm⟩⟩
    by_cases hkg : k = g
    · subst hkg; exact absurd hl (hkb off n)
    · exact heap_setRow_other w g k cells' hkg
  simp only [eff] at he
  split at he
  · -- into a box
    rename_i b j z hx hy
    obtain ⟨hu, ad, hax, had⟩ := (ev_ok ht hx).ptr_inv
    have hvy := ev_ok ht hy
    split at he
    · rename_i cs ys hb hz
      obtain ⟨hvl, hone, _⟩ := cellsA_ok hvy hz
      split at he
      · rename_i hc
        obtain ⟨hlen, hfit⟩ := hc
        simp only [Option.some.injEq] at he; subst he
        obtain ⟨g, off, n, ety, cells, hl, hg, hcs, hn, hcell⟩ := box_at hr hb
        have := had g off n hl
        subst this; subst hn
        have hus : (a.eval y).cells.size = sz := by rw [← hvl.1]; exact hlen
        have hrun := run_storeVar (P := P) (w := w) (off := off + j) hs hus hone hg (by omega)
        have hm := moved b g off cs.length cells (pasted cells (off + j) (a.eval y).cells) ety hu hl hg
        have hrow := setRow_heap w g cells (pasted cells (off + j) (a.eval y).cells) ety (0, 0) hg
        refine .moved hr hm (fun _ => ⟨_, rfl⟩) ?_ (.inr ⟨rfl, runS g (off + j) _ hax hrun⟩) (.p (.v _)) (.inl hu) True
        refine ⟨g, off, cs.length, ety, _, rfl, hrow, ?_, (splice_length cs ys j (by omega)).symm, fun i c hi => ?_⟩
        · rw [pasted_size _ _ _ (by omega)]; omega
        · rw [splice, splice_get _ _ _ _ (by omega)] at hi
          have hul : (a.eval y).cells.size = ys.length := by omega
          rw [pasted_get _ _ _ (by omega), hul]
          by_cases h1 : i < j
          · rw [if_pos h1] at hi
            rw [if_pos (by omega)]
            obtain ⟨u, hu1, hu2⟩ := hcell i c hi
            exact ⟨u, hu1, hm.vr hu2⟩
          · rw [if_neg h1] at hi
            rw [if_neg (by omega)]
            by_cases h2 : i < j + ys.length
            · rw [if_pos h2] at hi
              rw [if_pos (by omega)]
              have hlt : off + i - (off + j) < (a.eval y).cells.size := by omega
              refine ⟨_, Array.getElem?_eq_getElem hlt, hm.vr (hvl.2 (i - j) c _ hi ?_)⟩
              rw [show i - j = off + i - (off + j) from by omega]
              exact Array.getElem?_eq_getElem hlt
            · rw [if_neg h2] at hi
              rw [if_neg (by omega)]
              obtain ⟨u, hu1, hu2⟩ := hcell i c hi
              exact ⟨u, hu1, hm.vr hu2⟩
      · cases he
    · cases he
  · -- into a row
    rename_i b sz' k j z hx hy
    obtain ⟨hu, ad, hax, had⟩ := (ev_ok ht hx).rp_inv
    have hvy := ev_ok ht hy
    split at he
    · rename_i ety sz'' xs ys hb hz
      obtain ⟨hvl, hone, _⟩ := cellsA_ok hvy hz
      split at he
      · rename_i hc
        obtain ⟨hss, hlen, hpure⟩ := hc
        subst hss
        simp only [Option.some.injEq] at he; subst he
        obtain ⟨hk, hfit⟩ := hp
        obtain ⟨g, off, n, cells, hl, hg, hcs, hroom, hrl, hcell⟩ := row_at hr hb (Nat.lt_of_le_of_lt (Nat.zero_le _) hk)
        have := had g off n hl
        subst this
        have hxk : xs[k]? = some (nth xs k) := by
          rw [List.getElem?_eq_getElem hk]; simp [nth, List.getElem?_eq_getElem hk]
        have hnl := hrl k _ hxk
        have hks : k * sz' + sz' ≤ xs.length * sz' := by
          have : (k + 1) * sz' ≤ xs.length * sz' := Nat.mul_le_mul_right _ hk
          rw [Nat.add_mul, Nat.one_mul] at this
          exact this
        have hus : (a.eval y).cells.size = sz := by rw [← hvl.1]; exact hlen
        have hrun := run_storeVar (P := P) (w := w) (off := off + (k * sz' + j)) hs hus hone hg (by omega)
        have hm := moved b g off n cells (pasted cells (off + (k * sz' + j)) (a.eval y).cells) ety hu hl hg
        have hrow := setRow_heap w g cells (pasted cells (off + (k * sz' + j)) (a.eval y).cells) ety (0, 0) hg
        have hps := pasted_size cells (off + (k * sz' + j)) (a.eval y).cells (by omega)
        have hul : (a.eval y).cells.size = ys.length := by omega
        refine .moved hr hm (fun ⟨cs, hcs'⟩ => by rw [hb] at hcs'; cases hcs') ?_ (.inr ⟨rfl, runS g _ _ hax hrun⟩) (.p (.v _)) (.inl hu) _
        refine .inr ⟨g, off, n, _, rfl, hrow, ?_, by simpa using hroom, fun q x hq => ?_, fun q x i c hq hi => ?_⟩
        · rw [hps]; omega
        · by_cases hqk : q = k
          · subst hqk
            simp [List.getElem?_set, hk] at hq
            subst hq
            rw [splice_length _ _ _ (by omega)]; exact hnl
          · rw [List.getElem?_set_ne (fun e => hqk e.symm)] at hq
            exact hrl q x hq
        · have old : ∀ x', xs[q]? = some x' → x'[i]? = some c → (q ≠ k ∨ i < j ∨ j + ys.length ≤ i) → i < sz' →
              ∃ u, (pasted cells (off + (k * sz' + j)) (a.eval y).cells)[off + (q * sz' + i)]? = some u ∧ u.oneCell' = true ∧ VP (w.setRow g (pasted cells (off + (k * sz' + j)) (a.eval y).cells)) (okc C (up ρ b (.at g off n)) (w.setRow g (pasted cells (off + (k * sz' + j)) (a.eval y).cells))) c u := by
            intro x' hq' hi' hor hisz
            obtain ⟨u, hu1, h1c, hu2⟩ := hcell q x' i c hq' hi'
            refine ⟨u, ?_, h1c, hm.vp hu2⟩
            rw [pasted_get _ _ _ (by omega), hul]
            have hne : ¬ (k * sz' + j ≤ q * sz' + i ∧ q * sz' + i < k * sz' + j + ys.length) := by
              rcases hor with hqk | hij | hij
              · intro ⟨c1, c2⟩
                rcases Nat.lt_or_gt_of_ne hqk with hlt | hgt
                · have : (q + 1) * sz' ≤ k * sz' := Nat.mul_le_mul_right _ hlt
                  rw [Nat.add_mul, Nat.one_mul] at this
                  omega
                · have : (k + 1) * sz' ≤ q * sz' := Nat.mul_le_mul_right _ hgt
                  rw [Nat.add_mul, Nat.one_mul] at this
                  omega
              · by_cases hqk : q = k
                · subst hqk; omega
                · intro ⟨c1, c2⟩
                  rcases Nat.lt_or_gt_of_ne hqk with hlt | hgt
                  · have : (q + 1) * sz' ≤ k * sz' := Nat.mul_le_mul_right _ hlt
                    rw [Nat.add_mul, Nat.one_mul] at this
                    omega
                  · have : (k + 1) * sz' ≤ q * sz' := Nat.mul_le_mul_right _ hgt
                    rw [Nat.add_mul, Nat.one_mul] at this
                    omega
              · by_cases hqk : q = k
                · subst hqk; omega
                · intro ⟨c1, c2⟩
                  rcases Nat.lt_or_gt_of_ne hqk with hlt | hgt
                  · have : (q + 1) * sz' ≤ k * sz' := Nat.mul_le_mul_right _ hlt
                    rw [Nat.add_mul, Nat.one_mul] at this
                    omega
                  · have : (k + 1) * sz' ≤ q * sz' := Nat.mul_le_mul_right _ hgt
                    rw [Nat.add_mul, Nat.one_mul] at this
                    omega
            by_cases h1 : off + (q * sz' + i) < off + (k * sz' + j)
            · rw [if_pos h1]; exact hu1
            · rw [if_neg h1, if_neg (by omega)]; exact hu1
          by_cases hqk : q = k
          · subst hqk
            simp [List.getElem?_set, hk] at hq
            subst hq
            have hisz : i < sz' := by
              have := (List.getElem?_eq_some_iff.1 hi).1
              rw [splice_length _ _ _ (by omega)] at this
              omega
            rw [splice, splice_get _ _ _ _ (by omega)] at hi
            by_cases h1 : i < j
            · rw [if_pos h1] at hi
              exact old _ hxk hi (.inr (.inl h1)) hisz
            · rw [if_neg h1] at hi
              by_cases h2 : i < j + ys.length
              · rw [if_pos h2] at hi
                have hlt : i - j < (a.eval y).cells.size := by omega
                have hv := hvl.2 (i - j) c _ hi (Array.getElem?_eq_getElem hlt)
                refine ⟨_, ?_, hone (i - j) _ (Array.getElem?_eq_getElem hlt), hm.vp (VP.of_pure_aux hv (pureL_get _ hpure _ _ hi))⟩
                rw [pasted_get _ _ _ (by omega), hul, if_neg (by omega), if_pos (by omega)]
                rw [show off + (q * sz' + i) - (off + (q * sz' + j)) = i - j from by omega]
                exact Array.getElem?_eq_getElem hlt
              · rw [if_neg h2] at hi
                exact old _ hxk hi (.inr (.inr (by omega))) hisz
          · rw [List.getElem?_set_ne (fun e => hqk e.symm)] at hq
            have := hrl q x hq
            exact old _ hq hi (.inl hqk) (by rw [← this]; exact (List.getElem?_eq_some_iff.1 hi).1)
      · cases he
    · cases he
  · cases he
end
end Go.Eng
namespace Go.Eng
open Go
structure Xfer (C : Ctx) (ρ : Nat → Loc) (U : Nat → Prop) (h : List (Nat × Ob)) (w : World) (b b' : Nat) (l : Loc) (w' : World) : Prop where
  os : w'.os = w.os
  tape : w'.tape = w.tape
  output : w'.output = w.output
  size : w.heap.size ≤ w'.heap.size
  bl : ∀ g, g < w.heap.size → (∀ o n, ρ b ≠ .at g o n) → w'.heap[g]? = w.heap[g]?
  hu : U b
  hb' : ¬ U b'
  nb : ∀ cs, get h b ≠ some (.box cs)
  way : l = .nil ∨ ∃ g o n, l = .at g o n ∧ ((w.heap.size ≤ g ∧ g < w'.heap.size) ∨ ∃ o' n', ρ b = .at g o' n')
def up2 (ρ : Nat → Loc) (b b' : Nat) (l : Loc) : Nat → Loc := up (up ρ b .dead) b' l
section
variable {C : Ctx} {ρ : Nat → Loc} {U : Nat → Prop} {h : List (Nat × Ob)} {w w' : World} {b b' : Nat} {l : Loc}
theorem Xfer.ne (hm : Xfer C ρ U h w b b' l w') : b ≠ b' := fun e => hm.hb' (e ▸ hm.hu)
theorem Xfer.later (hm : Xfer C ρ U h w b b' l w') : Later U ρ (up2 ρ b b' l) := by
  intro k hk
  unfold up2 up
  have : k ≠ b' := fun e => hm.hb' (e ▸ hk)
  rw [if_neg this]
  by_cases e : k = b
  · rw [if_pos e]; exact .inr rfl
  · rw [if_neg e]; exact .inl rfl
theorem Xfer.owned (hm : Xfer C ρ U h w b b' l w') {g : Nat} (ho : Owned (up2 ρ b b' l) g) : Owned ρ g ∨ (w.heap.size ≤ g ∧ g < w'.heap.size) := by
  obtain ⟨k, o, n, hk⟩ := ho
  unfold up2 up at hk
  by_cases e : k = b'
  · rw [if_pos e] at hk
    rcases hm.way with h | ⟨g', o', n', h, h1 | ⟨o'', n'', h1⟩⟩
    · rw [h] at hk; cases hk
    · rw [h] at hk; cases hk; exact .inr h1
    · rw [h] at hk; cases hk; exact .inl ⟨b, _, _, h1⟩
  · rw [if_neg e] at hk
    by_cases e2 : k = b
    · rw [if_pos e2] at hk; cases hk
    · rw [if_neg e2] at hk; exact .inl ⟨k, o, n, hk⟩
theorem Xfer.okc (hm : Xfer C ρ U h w b b' l w') {g : Nat} (hg : okc C ρ w g) : okc C (up2 ρ b b' l) w' g := by
  refine ⟨hg.1, Nat.lt_of_lt_of_le hg.2.1 hm.size, fun ho => ?_⟩
  rcases hm.owned ho with h | h
  · exact hg.2.2 h
  · have := hg.2.1; omega
theorem Xfer.same (hm : Xfer C ρ U h w b b' l w') {g : Nat} (hg : Go.Eng.okc C ρ w g) : w'.heap[g]? = w.heap[g]? :=
  hm.bl g hg.2.1 fun o n e => hg.2.2 ⟨b, o, n, e⟩
theorem Xfer.vr (hm : Xfer C ρ U h w b b' l w') {x : AV} {u : Value} (hx : VR w (Go.Eng.okc C ρ w) ρ U x u) : VR w' (Go.Eng.okc C (up2 ρ b b' l) w') (up2 ρ b b' l) (addU U b') x u :=
  hx.mono (fun _ => hm.okc) (fun _ => hm.same) (fun _ h => .inl h) hm.later
theorem Xfer.vp (hm : Xfer C ρ U h w b b' l w') {x : AV} {u : Value} (hx : VP w (Go.Eng.okc C ρ w) x u) : VP w' (Go.Eng.okc C (up2 ρ b b' l) w') x u :=
  hx.mono (fun _ => hm.okc) (fun _ => hm.same)
theorem Xfer.keep (hm : Xfer C ρ U h w b b' l w') {l' : Loc} {ob : Ob} (hl : ∀ g o n, l' = .at g o n → w'.heap[g]? = w.heap[g]?)
    (ho : ObR w (Go.Eng.okc C ρ w) ρ U l' ob) : ObR w' (Go.Eng.okc C (up2 ρ b b' l) w') (up2 ρ b b' l) (addU U b') l' ob := by
  cases ob with
  | box cs =>
    obtain ⟨g, o, n, e, cells, h1, h2, h3, h4, h5⟩ := ho
    refine ⟨g, o, n, e, cells, h1, (hl g o n h1).trans h2, h3, h4, fun j c hj => ?_⟩
    obtain ⟨u, hu, hv⟩ := h5 j c hj
    exact ⟨u, hu, hm.vr hv⟩
  | row e sz xs =>
    rcases ho with ho | ⟨g, o, n, cells, h1, h2, h3, h4, h5, h6⟩
    · exact .inl ho
    · refine .inr ⟨g, o, n, cells, h1, (hl g o n h1).trans h2, h3, h4, h5, fun k x j c hk hj => ?_⟩
      obtain ⟨u, hu, h1c, hv⟩ := h6 k x j c hk hj
      exact ⟨u, hu, h1c, hm.vp hv⟩
  | map es =>
    obtain ⟨g, ents, clock, h1, h2, h3, h4⟩ := ho
    exact ⟨g, ents, clock, h1, (hl g 0 0 h1).trans h2, h3, fun i k c m hi he => ⟨(h4 i k c m hi he).1, hm.vr (h4 i k c m hi he).2⟩⟩
  | dead => exact ho
theorem Xfer.hr (hm : Xfer C ρ U h w b b' l w') (hr : HR C ρ U h w) {ob : Ob}
    (ho : ObR w' (Go.Eng.okc C (up2 ρ b b' l) w') (up2 ρ b b' l) (addU U b') l ob) : HR C (up2 ρ b b' l) (addU U b') ((b', ob) :: (b, .dead) :: h) w' where
  hp k o hk := by
    by_cases e : b' = k
    · subst e
      rw [get_same] at hk
      cases hk
      refine ⟨.inr rfl, ?_⟩
      have : up2 ρ b b' l b' = l := by simp [up2, up]
      rw [this]; exact ho
    · rw [get_ne _ _ _ _ e] at hk
      by_cases e2 : b = k
      · subst e2
        rw [get_same] at hk; cases hk
        refine ⟨.inl hm.hu, ?_⟩
        show up2 ρ b b' l b = .dead
        simp [up2, up, hm.ne]
      · rw [get_ne _ _ _ _ e2] at hk
        have he : up2 ρ b b' l k = ρ k := by unfold up2 up; rw [if_neg (fun h => e h.symm), if_neg (fun h => e2 h.symm)]
        obtain ⟨h1, h2⟩ := hr.hp k o hk
        refine ⟨.inl h1, ?_⟩
        rw [he]
        refine hm.keep (fun g o n hl => ?_) h2
        have hlt := (hr.ownl g ⟨k, o, n, hl⟩).2
        exact hm.bl g hlt fun o' n' h' => e2 (hr.inj b k g o' n' o n h' hl)
  hd k hk := by
    by_cases e : b' = k
    · subst e; rw [get_same] at hk; cases hk
    · rw [get_ne _ _ _ _ e] at hk
      by_cases e2 : b = k
      · subst e2; rw [get_same] at hk; cases hk
      · rw [get_ne _ _ _ _ e2] at hk
        unfold up2 up; rw [if_neg (fun h => e h.symm), if_neg (fun h => e2 h.symm)]; exact hr.hd k hk
  inj k k' g o n o' n' h1 h2 := by
    have key : ∀ k o n, up2 ρ b b' l k = .at g o n → (k = b' ∧ ((∃ o' n', ρ b = .at g o' n') ∨ w.heap.size ≤ g)) ∨ (k ≠ b' ∧ k ≠ b ∧ ρ k = .at g o n) := by
      intro k o n hk
      unfold up2 up at hk
      by_cases e : k = b'
      · rw [if_pos e] at hk
        refine .inl ⟨e, ?_⟩
        rcases hm.way with h | ⟨g', o', n', h, h1 | ⟨o'', n'', h1⟩⟩
        · rw [h] at hk; cases hk
        · rw [h] at hk; cases hk; exact .inr h1.1
        · rw [h] at hk; cases hk; exact .inl ⟨_, _, h1⟩
      · rw [if_neg e] at hk
        by_cases e2 : k = b
        · rw [if_pos e2] at hk; cases hk
        · rw [if_neg e2] at hk; exact .inr ⟨e, e2, hk⟩
    rcases key k o n h1 with ⟨e1, a1⟩ | ⟨e1, f1, a1⟩ <;> rcases key k' o' n' h2 with ⟨e2, a2⟩ | ⟨e2, f2, a2⟩
    · rw [e1, e2]
    · rcases a1 with ⟨o'', n'', a1⟩ | a1
      · exact absurd (hr.inj _ _ _ _ _ _ _ a2 a1) f2
      · have := (hr.ownl g ⟨k', o', n', a2⟩).2; omega
    · rcases a2 with ⟨o'', n'', a2⟩ | a2
      · exact absurd (hr.inj _ _ _ _ _ _ _ a1 a2) f1
      · have := (hr.ownl g ⟨k, o, n, a1⟩).2; omega
    · exact hr.inj _ _ _ _ _ _ _ a1 a2
  os := hm.os.trans hr.os
  tape := hm.tape.trans hr.tape
  output := hm.output.trans hr.output
  size := Nat.le_trans hr.size hm.size
  old g hg he hv := by
    rw [← hr.old g hg he hv]
    refine hm.bl g (Nat.lt_of_lt_of_le hg hr.size) fun o n e => ?_
    rcases (hr.ownl g ⟨b, o, n, e⟩).1 with h | h
    · exact he h
    · rcases h with h | h
      · exact hv h
      · omega
  okl := hr.okl
  ownl g ho := by
    rcases hm.owned ho with h | h
    · exact ⟨(hr.ownl g h).1, Nat.lt_of_lt_of_le (hr.ownl g h).2 hm.size⟩
    · exact ⟨.inr (.inr (by have := hr.size; omega)), h.2⟩
  fix k l' hk := by
    obtain ⟨h1, h2, cs, h3⟩ := hr.fix k l' hk
    have e : b' ≠ k := fun e => hm.hb' (e ▸ h2)
    have e2 : b ≠ k := fun e => hm.nb cs (e ▸ h3)
    refine ⟨?_, .inl h2, cs, by rw [get_ne _ _ _ _ e, get_ne _ _ _ _ e2]; exact h3⟩
    unfold up2 up; rw [if_neg (fun h => e h.symm), if_neg (fun h => e2 h.symm)]; exact h1
theorem Run.xfer (hr : HR C ρ U h w) {ob : Ob} {x : AV} {v : Value} {r : Result Next} (hm : Xfer C ρ U h w b b' l w')
    (ho : ObR w' (Go.Eng.okc C (up2 ρ b b' l) w') (up2 ρ b b' l) (addU U b') l ob) (hrun : r = .ok (.value v) w') (hv : VR w' (Go.Eng.okc C (up2 ρ b b' l) w') (up2 ρ b b' l) (addU U b') x v) (p : Prop) :
    Run C ρ U h w b' r ⟨p, x, [(b', ob), (b, .dead)]⟩ :=
  ⟨v, w', _, _, .inl hrun, hm.hr hr ho, hv, fun _ _ h => hm.vr h, fun _ hk => hk⟩
end
end Go.Eng
namespace Go.Eng
open Go
section
variable {P : Program} {C : Ctx} {ρ : Nat → Loc} {U : Nat → Prop} {h : List (Nat × Ob)} {w : World} {nm : Nat} {t : List (Nat × AV)} {a : Act} {o : Oper} {e : E}
structure Reads (w : World) (ok : Nat → Prop) (sz : Nat) (xs : List (List AV)) (u : Value) (vals : List Value) : Prop where
  form : ∃ ad cap, u = .slice ad xs.length cap ∧ (ad = none → xs = []) ∧ ∀ A, ad = some A → ∀ j v, vals[j]? = some v → w.cell? (A.add j) = some v
  len : vals.length = xs.length * sz
  el : ∀ (k : Nat) (x : List AV), xs[k]? = some x → x.length = sz
  one : ∀ q ∈ vals, q.oneCell' = true
  rel : ∀ (k : Nat) (x : List AV) (j : Nat) (c : AV), xs[k]? = some x → x[j]? = some c → ∃ v, vals[k * sz + j]? = some v ∧ VP w ok c v
theorem add_spot (A : Addr) (j : Nat) (hs : A.spot = none) : A.add j = ⟨A.block, A.off + j, none⟩ := by
  obtain ⟨g, o, sp⟩ := A
  simp only at hs
  subst hs
  exact add_plain g o j
theorem divmod_lt {k j sz : Nat} (hj : j < sz) : (k * sz + j) / sz = k ∧ (k * sz + j) % sz = j := by
  have h0 : 0 < sz := by omega
  constructor
  · rw [Nat.mul_comm, Nat.mul_add_div h0, Nat.div_eq_of_lt hj, Nat.add_zero]
  · rw [Nat.mul_comm, Nat.mul_add_mod, Nat.mod_eq_of_lt hj]
theorem contents_reads (hr : HR C ρ U h w) {sz : Nat} {x : AV} {u : Value} {p : Prop} {xs : List (List AV)} (hsz : 0 < sz) (hv : VR w (okc C ρ w) ρ U x u)
    (hc : contentsN h sz (some x) = some (p, xs)) (hp : p) : ∃ vals, Reads w (okc C ρ w) sz xs u vals := by
  unfold contentsN at hc
  split at hc
  · rename_i e0
    simp only [Option.some.injEq] at e0
    subst e0
    simp only [Option.some.injEq, Prod.mk.injEq] at hc
    obtain ⟨_, rfl⟩ := hc
    have := hv.v_inv
    subst this
    exact ⟨[], ⟨⟨none, 0, rfl, fun _ => rfl, fun A h => by cases h⟩, by simp, by simp, by simp, by simp⟩⟩
  · rename_i sz' xs' e0
    simp only [Option.some.injEq] at e0
    subst e0
    split at hc
    · rename_i hss
      subst hss
      simp only [Option.some.injEq, Prod.mk.injEq] at hc
      obtain ⟨_, rfl⟩ := hc
      have hvp := hv.sl_inv
      cases hvp with
      | nilsl => exact ⟨[], ⟨⟨none, 0, rfl, fun _ => rfl, fun A h => by cases h⟩, by simp, by simp, by simp, by simp⟩⟩
      | sl A n cap f hn hcap hok hl hcc hvv =>
        subst hn
        refine ⟨(List.range (xs'.length * sz)).map fun q => f (q / sz) (q % sz), ⟨⟨some A, cap, rfl, by simp, fun A' hA j v hj => ?_⟩, by simp, hl, fun v hv => ?_, fun k x j c hk hj => ?_⟩⟩
        · cases hA
          have hjl : j < xs'.length * sz := by simpa using (List.getElem?_eq_some_iff.1 hj).1
          have h1 : j / sz < xs'.length := Nat.div_lt_of_lt_mul (by rw [Nat.mul_comm]; exact hjl)
          have h2 : j % sz < sz := Nat.mod_lt _ hsz
          simp only [List.getElem?_map, List.getElem?_range hjl, Option.map_some, Option.some.injEq] at hj
          subst hj
          have hx := List.getElem?_eq_getElem h1
          have hlen := hl _ _ hx
          have hy := List.getElem?_eq_getElem (l := xs'[j / sz]) (i := j % sz) (by omega)
          have := (hcc _ _ _ _ hx hy).1
          rw [add_spot _ _ (hok (Nat.lt_of_le_of_lt (Nat.zero_le _) h1)).1]
          rw [show j / sz * sz + j % sz = j from by rw [Nat.mul_comm]; exact Nat.div_add_mod j sz] at this
          exact this
        · obtain ⟨j, hj, rfl⟩ := List.mem_map.1 hv
          have hjl : j < xs'.length * sz := by simpa using hj
          have h1 : j / sz < xs'.length := Nat.div_lt_of_lt_mul (by rw [Nat.mul_comm]; exact hjl)
          have h2 : j % sz < sz := Nat.mod_lt _ hsz
          have hx := List.getElem?_eq_getElem h1
          have hlen := hl _ _ hx
          have hy := List.getElem?_eq_getElem (l := xs'[j / sz]) (i := j % sz) (by omega)
          exact (hcc _ _ _ _ hx hy).2
        · have hjs : j < sz := by rw [← hl k x hk]; exact (List.getElem?_eq_some_iff.1 hj).1
          have hkl : k < xs'.length := (List.getElem?_eq_some_iff.1 hk).1
          have hlt : k * sz + j < xs'.length * sz := by
            have : (k + 1) * sz ≤ xs'.length * sz := Nat.mul_le_mul_right _ hkl
            rw [Nat.add_mul, Nat.one_mul] at this
            omega
          refine ⟨f k j, ?_, hvv k x j c hk hj⟩
          simp only [List.getElem?_map, List.getElem?_range hlt, Option.map_some, (divmod_lt (k := k) hjs).1, (divmod_lt (k := k) hjs).2]
    · cases hc
  · rename_i b sz' off len e0
    simp only [Option.some.injEq] at e0
    subst e0
    obtain ⟨hu, ⟨ad, len', cap', hsl⟩, hown⟩ := hv.own_inv
    split at hc
    · rename_i ety sz'' ys hb
      split at hc
      · rename_i hss
        obtain ⟨h1, h2⟩ := hss
        subst h1; subst h2
        simp only [Option.some.injEq, Prod.mk.injEq] at hc
        obtain ⟨hp', rfl⟩ := hc
        have hfit : off + len ≤ ys.length := by rw [hp']; exact hp
        have hlen : ((ys.drop off).take len).length = len := by simp; omega
        by_cases h0 : len = 0
        · subst h0
          have hform : ∃ ad cap, u = .slice ad 0 cap := by
            cases hl : ρ b with
            | dead => rcases (hr.hp b _ hb).2 with ⟨e', _⟩ | ⟨_, _, _, _, e', _⟩ <;> rw [hl] at e' <;> cases e'
            | nil => rw [hl] at hown; exact ⟨_, _, hown.2⟩
            | «at» g o n' =>
              rw [hl] at hown
              rcases hown with ⟨_, _, hv | ⟨ad, hv⟩⟩ | ⟨cap, _, _, hv⟩ <;> exact ⟨_, _, hv⟩
          obtain ⟨ad, cap, rfl⟩ := hform
          exact ⟨[], ⟨⟨ad, cap, by simp, by simp, by simp⟩, by simp, by simp, by simp, by simp⟩⟩
        · obtain ⟨g, o, n, cells, hl, hg, hcs, hroom, hrl, hcell⟩ := row_at hr hb (by omega)
          rw [hl] at hown
          rcases hown with ⟨hz, _⟩ | ⟨cap, hlc, hcap, rfl⟩
          · exact absurd hz h0
          · have hmul : (off + len) * sz ≤ ys.length * sz := Nat.mul_le_mul_right _ hfit
            rw [Nat.add_mul] at hmul
            refine ⟨(cells.extract (o + off * sz) (o + off * sz + len * sz)).toList, ⟨⟨some ⟨g, o + off * sz, none⟩, cap, by rw [hlen], by simp, fun A hA j v hj => ?_⟩, ?_, fun k x hk => ?_, fun v hv => ?_, fun k x j c hk hj => ?_⟩⟩
            · cases hA
              rw [add_plain, cell_heap hg]
              rw [Array.getElem?_toList, Array.getElem?_extract] at hj
              split at hj
              · exact hj
              · cases hj
            · simp only [Array.length_toList, Array.size_extract, hlen]; omega
            · rw [List.getElem?_take] at hk
              split at hk
              · rw [List.getElem?_drop] at hk; exact hrl _ x hk
              · cases hk
            · obtain ⟨i, hi, rfl⟩ := List.mem_iff_getElem.1 hv
              have hi' : i < len * sz := by simp only [Array.length_toList, Array.size_extract] at hi; omega
              have h1 : i / sz < len := Nat.div_lt_of_lt_mul (by rw [Nat.mul_comm]; exact hi')
              have h2 : i % sz < sz := Nat.mod_lt _ hsz
              have hx := List.getElem?_eq_getElem (l := ys) (i := off + i / sz) (by omega)
              have hlen' := hrl _ _ hx
              have hy := List.getElem?_eq_getElem (l := ys[off + i / sz]) (i := i % sz) (by omega)
              obtain ⟨u, hu1, hu2, _⟩ := hcell _ _ _ _ hx hy
              have he : (cells.extract (o + off * sz) (o + off * sz + len * sz)).toList[i]? = some u := by
                rw [Array.getElem?_toList, Array.getElem?_extract, if_pos (by omega)]
                rw [show o + off * sz + i = o + ((off + i / sz) * sz + i % sz) from by
                  have := Nat.div_add_mod i sz
                  rw [Nat.mul_comm] at this
                  rw [Nat.add_mul]; omega]
                exact hu1
              rw [List.getElem?_eq_getElem hi] at he
              cases he
              exact hu2
            · rw [List.getElem?_take] at hk
              split at hk
              · rename_i hkl
                rw [List.getElem?_drop] at hk
                obtain ⟨v, hv1, _, hv2⟩ := hcell _ x j c hk hj
                have hjs : j < sz := by rw [← hrl _ x hk]; exact (List.getElem?_eq_some_iff.1 hj).1
                have hlt : k * sz + j < len * sz := by
                  have : (k + 1) * sz ≤ len * sz := Nat.mul_le_mul_right _ hkl
                  rw [Nat.add_mul, Nat.one_mul] at this
                  omega
                refine ⟨v, ?_, hv2⟩
                rw [Array.getElem?_toList, Array.getElem?_extract, if_pos (by omega)]
                rw [show o + off * sz + (k * sz + j) = o + ((off + k) * sz + j) from by rw [Nat.add_mul]; omega]
                exact hv1
              · cases hk
      · cases hc
    · cases hc
  · cases hc
end
end Go.Eng
