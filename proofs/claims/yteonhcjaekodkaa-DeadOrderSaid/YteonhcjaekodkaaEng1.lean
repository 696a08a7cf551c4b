/-
  The engine, part 1: abstract values, the relation between an abstract state and the model's world, and how it is kept.
  No condition: definitions and lemmas only.
-/
import Derived.WalkKit
set_option linter.all false
namespace Go.Eng
open Go

inductive AV where
  | v (x : Value)
  | agg (cs : List AV)
  | tup (vs : List AV)
  | sl (sz : Nat) (xs : List (List AV))
  | own (b sz off len : Nat)
  | ptr (b j : Nat)
  | rp (b sz k j : Nat)
  | pel (cs : List AV) (j : Nat)
  | mp (b : Nat)
  | fn (f : FuncId) (caps : List AV)

instance : Inhabited AV := ⟨.v undef⟩

inductive Ob where
  | box (cs : List AV)
  | row (e : TypeId) (sz : Nat) (xs : List (List AV))
  | map (es : List (Value × AV))
  | dead

inductive Loc where
  | dead
  | nil
  | at (g o n : Nat)

def get {α : Type} : List (Nat × α) → Nat → Option α
  | [], _ => none
  | (j, x) :: l, k => if j = k then some x else get l k

@[simp] theorem get_nil {α : Type} (k : Nat) : get ([] : List (Nat × α)) k = none := rfl
theorem get_cons {α : Type} (j k : Nat) (x : α) (l : List (Nat × α)) : get ((j, x) :: l) k = if j = k then some x else get l k := rfl
theorem get_same {α : Type} (k : Nat) (x : α) (l : List (Nat × α)) : get ((k, x) :: l) k = some x := by simp [get]
theorem get_ne {α : Type} (j k : Nat) (x : α) (l : List (Nat × α)) (h : j ≠ k) : get ((j, x) :: l) k = get l k := by simp [get, h]

/-- A value that holds no name of the state: memory that nobody writes any more. -/
inductive VP (w : World) (ok : Nat → Prop) : AV → Value → Prop
  | v (x : Value) : VP w ok (.v x) x
  | agg {cs : List AV} {vs : Array Value} (hl : cs.length = vs.size)
      (h : ∀ (i : Nat) (c : AV) (u : Value), cs[i]? = some c → vs[i]? = some u → VP w ok c u) : VP w ok (.agg cs) (.agg vs)
  | tup {cs : List AV} {vs : Array Value} (hl : cs.length = vs.size)
      (h : ∀ (i : Nat) (c : AV) (u : Value), cs[i]? = some c → vs[i]? = some u → VP w ok c u) : VP w ok (.tup cs) (.tuple vs)
  | nilsl {sz : Nat} : VP w ok (.sl sz []) (.slice none 0 0)
  | sl {sz : Nat} {xs : List (List AV)} (a : Addr) (n cap : Nat) (f : Nat → Nat → Value) (hn : n = xs.length) (hcap : n ≤ cap)
      (hok : 0 < xs.length → a.spot = none ∧ ok a.block)
      (hl : ∀ (k : Nat) (e : List AV), xs[k]? = some e → e.length = sz)
      (hc : ∀ (k : Nat) (e : List AV) (j : Nat) (c : AV), xs[k]? = some e → e[j]? = some c → w.cell? ⟨a.block, a.off + (k * sz + j), none⟩ = some (f k j) ∧ (f k j).oneCell' = true)
      (hv : ∀ (k : Nat) (e : List AV) (j : Nat) (c : AV), xs[k]? = some e → e[j]? = some c → VP w ok c (f k j)) : VP w ok (.sl sz xs) (.slice (some a) n cap)
  | pel {cs : List AV} {j : Nat} (g o : Nat) (f : Nat → Value) (hok : ok g)
      (hc : ∀ (i : Nat) (c : AV), cs[i]? = some c → w.cell? ⟨g, o + i, none⟩ = some (f i))
      (hv : ∀ (i : Nat) (c : AV), cs[i]? = some c → VP w ok c (f i)) : VP w ok (.pel cs j) (.pointer (some ⟨g, o + j, none⟩))
  | fn {f : FuncId} {cs : List AV} {vs : Array Value} (hl : cs.length = vs.size)
      (h : ∀ (i : Nat) (c : AV) (u : Value), cs[i]? = some c → vs[i]? = some u → VP w ok c u) : VP w ok (.fn f cs) (.func (.func f) #[] vs)

theorem VP.mono {w w' : World} {ok ok' : Nat → Prop} (hok : ∀ g, ok g → ok' g) (hw : ∀ g, ok g → w'.heap[g]? = w.heap[g]?) {x : AV} {u : Value}
    (h : VP w ok x u) : VP w' ok' x u := by
  induction h with
  | v x => exact .v x
  | agg hl _ ih => exact .agg hl ih
  | tup hl _ ih => exact .tup hl ih
  | nilsl => exact .nilsl
  | sl a n cap f hn hcap hk hl hc _ ih =>
    refine .sl a n cap f hn hcap (fun h => ⟨(hk h).1, hok _ (hk h).2⟩) hl (fun k e j c h1 h2 => ?_) ih
    have h3 := (List.getElem?_eq_some_iff.1 h1).1
    rw [← (hc k e j c h1 h2).1]
    exact ⟨World.cell?_of_block (a := ⟨a.block, _, none⟩) (hw _ (hk (by omega)).2), (hc k e j c h1 h2).2⟩
  | pel g o f hk hc _ ih =>
    refine .pel g o f (hok _ hk) (fun i c h1 => ?_) ih
    rw [← hc i c h1]
    exact World.cell?_of_block (a := ⟨g, _, none⟩) (hw _ hk)
  | fn hl _ ih => exact .fn hl ih

def OwnAt (l : Loc) (sz off len : Nat) (u : Value) : Prop :=
  (∃ a n c, u = .slice a n c) ∧
  match l with
  | .dead => True
  | .nil => len = 0 ∧ u = .slice none 0 0
  | .at g o n => (len = 0 ∧ (u = .slice none 0 0 ∨ ∃ a, u = .slice (some a) 0 0)) ∨ ∃ cap, len ≤ cap ∧ (off + cap) * sz ≤ n ∧ u = .slice (some ⟨g, o + off * sz, none⟩) len cap

inductive VR (w : World) (ok : Nat → Prop) (ρ : Nat → Loc) (U : Nat → Prop) : AV → Value → Prop
  | p {x : AV} {u : Value} (h : VP w ok x u) : VR w ok ρ U x u
  | agg {cs : List AV} {vs : Array Value} (hl : cs.length = vs.size)
      (h : ∀ (i : Nat) (c : AV) (u : Value), cs[i]? = some c → vs[i]? = some u → VR w ok ρ U c u) : VR w ok ρ U (.agg cs) (.agg vs)
  | tup {cs : List AV} {vs : Array Value} (hl : cs.length = vs.size)
      (h : ∀ (i : Nat) (c : AV) (u : Value), cs[i]? = some c → vs[i]? = some u → VR w ok ρ U c u) : VR w ok ρ U (.tup cs) (.tuple vs)
  | fn {f : FuncId} {cs : List AV} {vs : Array Value} (hl : cs.length = vs.size)
      (h : ∀ (i : Nat) (c : AV) (u : Value), cs[i]? = some c → vs[i]? = some u → VR w ok ρ U c u) : VR w ok ρ U (.fn f cs) (.func (.func f) #[] vs)
  | own {b sz off len : Nat} {u : Value} (hu : U b) (h : OwnAt (ρ b) sz off len u) : VR w ok ρ U (.own b sz off len) u
  | ptr {b j : Nat} (a : Option Addr) (hu : U b) (h : ∀ g o n, ρ b = .at g o n → a = some ⟨g, o + j, none⟩) : VR w ok ρ U (.ptr b j) (.pointer a)
  | rp {b sz k j : Nat} (a : Option Addr) (hu : U b) (h : ∀ g o n, ρ b = .at g o n → a = some ⟨g, o + (k * sz + j), none⟩) : VR w ok ρ U (.rp b sz k j) (.pointer a)
  | mp {b : Nat} (r : Option Nat) (hu : U b) (h : ∀ g o n, ρ b = .at g o n → r = some g) : VR w ok ρ U (.mp b) (.map r)

/-- Names keep their places, or die. -/
def Later (U : Nat → Prop) (ρ ρ' : Nat → Loc) : Prop := ∀ b, U b → ρ' b = ρ b ∨ ρ' b = .dead

theorem VR.mono {w w' : World} {ok ok' : Nat → Prop} {ρ ρ' : Nat → Loc} {U U' : Nat → Prop} (hok : ∀ g, ok g → ok' g) (hw : ∀ g, ok g → w'.heap[g]? = w.heap[g]?)
    (hU : ∀ b, U b → U' b) (hρ : Later U ρ ρ') {x : AV} {u : Value} (h : VR w ok ρ U x u) : VR w' ok' ρ' U' x u := by
  induction h with
  | p h => exact .p (h.mono hok hw)
  | agg hl _ ih => exact .agg hl ih
  | tup hl _ ih => exact .tup hl ih
  | fn hl _ ih => exact .fn hl ih
  | own hu h =>
    refine .own (hU _ hu) ?_
    rcases hρ _ hu with e | e
    · rw [e]; exact h
    · rw [e]; exact ⟨h.1, trivial⟩
  | ptr a hu h =>
    refine .ptr a (hU _ hu) ?_
    rcases hρ _ hu with e | e
    · rw [e]; exact h
    · rw [e]; intro g o n h; cases h
  | rp a hu h =>
    refine .rp a (hU _ hu) ?_
    rcases hρ _ hu with e | e
    · rw [e]; exact h
    · rw [e]; intro g o n h; cases h
  | mp a hu h =>
    refine .mp a (hU _ hu) ?_
    rcases hρ _ hu with e | e
    · rw [e]; exact h
    · rw [e]; intro g o n h; cases h

/-- A list of abstract values beside an array of values. -/
def VL (w : World) (ok : Nat → Prop) (ρ : Nat → Loc) (U : Nat → Prop) (cs : List AV) (vs : Array Value) : Prop :=
  cs.length = vs.size ∧ ∀ (i : Nat) (c : AV) (u : Value), cs[i]? = some c → vs[i]? = some u → VR w ok ρ U c u

section inv
variable {w : World} {ok : Nat → Prop} {ρ : Nat → Loc} {U : Nat → Prop}
theorem VR.agg_inv {cs : List AV} {u : Value} (h : VR w ok ρ U (.agg cs) u) : ∃ vs, u = .agg vs ∧ VL w ok ρ U cs vs := by
  cases h with
  | p h => cases h with | agg hl h => exact ⟨_, rfl, hl, fun i c u a b => .p (h i c u a b)⟩
  | agg hl h => exact ⟨_, rfl, hl, h⟩
theorem VR.tup_inv {cs : List AV} {u : Value} (h : VR w ok ρ U (.tup cs) u) : ∃ vs, u = .tuple vs ∧ VL w ok ρ U cs vs := by
  cases h with
  | p h => cases h with | tup hl h => exact ⟨_, rfl, hl, fun i c u a b => .p (h i c u a b)⟩
  | tup hl h => exact ⟨_, rfl, hl, h⟩
theorem VR.fn_inv {f : FuncId} {cs : List AV} {u : Value} (h : VR w ok ρ U (.fn f cs) u) : ∃ vs, u = .func (.func f) #[] vs ∧ VL w ok ρ U cs vs := by
  cases h with
  | p h => cases h with | fn hl h => exact ⟨_, rfl, hl, fun i c u a b => .p (h i c u a b)⟩
  | fn hl h => exact ⟨_, rfl, hl, h⟩
theorem VR.v_inv {x u : Value} (h : VR w ok ρ U (.v x) u) : u = x := by
  cases h with | p h => cases h; rfl
theorem VR.sl_inv {sz : Nat} {xs : List (List AV)} {u : Value} (h : VR w ok ρ U (.sl sz xs) u) : VP w ok (.sl sz xs) u := by
  cases h with | p h => exact h
theorem VR.pel_inv {cs : List AV} {j : Nat} {u : Value} (h : VR w ok ρ U (.pel cs j) u) : VP w ok (.pel cs j) u := by
  cases h with | p h => exact h
theorem VR.own_inv {b sz off len : Nat} {u : Value} (h : VR w ok ρ U (.own b sz off len) u) : U b ∧ OwnAt (ρ b) sz off len u := by
  cases h with
  | p h => cases h
  | own hu h => exact ⟨hu, h⟩
theorem VR.ptr_inv {b j : Nat} {u : Value} (h : VR w ok ρ U (.ptr b j) u) : U b ∧ ∃ a, u = .pointer a ∧ ∀ g o n, ρ b = .at g o n → a = some ⟨g, o + j, none⟩ := by
  cases h with
  | p h => cases h
  | ptr a hu h => exact ⟨hu, a, rfl, h⟩
theorem VR.rp_inv {b sz k j : Nat} {u : Value} (h : VR w ok ρ U (.rp b sz k j) u) : U b ∧ ∃ a, u = .pointer a ∧ ∀ g o n, ρ b = .at g o n → a = some ⟨g, o + (k * sz + j), none⟩ := by
  cases h with
  | p h => cases h
  | rp a hu h => exact ⟨hu, a, rfl, h⟩
theorem VR.mp_inv {b : Nat} {u : Value} (h : VR w ok ρ U (.mp b) u) : U b ∧ ∃ r, u = .map r ∧ ∀ g o n, ρ b = .at g o n → r = some g := by
  cases h with
  | p h => cases h
  | mp a hu h => exact ⟨hu, a, rfl, h⟩
theorem VL.nil : VL w ok ρ U [] #[] := ⟨rfl, by simp⟩
theorem VL.push {cs : List AV} {vs : Array Value} (h : VL w ok ρ U cs vs) {c : AV} {u : Value} (hc : VR w ok ρ U c u) : VL w ok ρ U (cs ++ [c]) (vs.push u) := by
  refine ⟨by simp [h.1], fun i c' u' h1 h2 => ?_⟩
  rw [Array.getElem?_push] at h2
  rw [List.getElem?_append] at h1
  split at h2
  · subst_vars
    rw [if_neg (by have := h.1; omega)] at h1
    have : vs.size - cs.length = 0 := by have := h.1; omega
    rw [this] at h1
    simp at h1 h2
    subst h1; subst h2
    exact hc
  · rename_i hi
    by_cases hlt : i < cs.length
    · rw [if_pos hlt] at h1
      exact h.2 i _ _ h1 h2
    · have : i < vs.size := (Array.getElem?_eq_some_iff.1 h2).1
      have := h.1
      omega
theorem VL.mono {w' : World} {ok' : Nat → Prop} {ρ' : Nat → Loc} {U' : Nat → Prop} (hok : ∀ g, ok g → ok' g) (hw : ∀ g, ok g → w'.heap[g]? = w.heap[g]?)
    (hU : ∀ b, U b → U' b) (hρ : Later U ρ ρ') {cs : List AV} {vs : Array Value} (h : VL w ok ρ U cs vs) : VL w' ok' ρ' U' cs vs :=
  ⟨h.1, fun i c u h1 h2 => (h.2 i c u h1 h2).mono hok hw hU hρ⟩
end inv

/-- The call's frame: the world when it began, the blocks that its arguments may reach (read only), the blocks that it may write. -/
structure Ctx where
  w0 : World
  ok : Nat → Prop
  ext : Nat → Prop
  loc : Nat → Option Loc
  nt : Nat
  extl : ∀ g, ext g → ∃ b o n, loc b = some (.at g o n)
  locb : ∀ b l, loc b = some l → b < 4

def Owned (ρ : Nat → Loc) (g : Nat) : Prop := ∃ b o n, ρ b = .at g o n
def okc (C : Ctx) (ρ : Nat → Loc) (w : World) (g : Nat) : Prop := (C.ok g ∨ C.w0.heap.size ≤ g) ∧ g < w.heap.size ∧ ¬ Owned ρ g

def ObR (w : World) (ok : Nat → Prop) (ρ : Nat → Loc) (U : Nat → Prop) (l : Loc) : Ob → Prop
  | .box cs => ∃ g o n e cells, l = .at g o n ∧ w.heap[g]? = some (.cells cells e (0, 0)) ∧ o + n ≤ cells.size ∧ n = cs.length ∧
      ∀ j c, cs[j]? = some c → ∃ u, cells[o + j]? = some u ∧ VR w ok ρ U c u
  | .row e sz xs => (l = .nil ∧ xs = []) ∨ ∃ g o n cells, l = .at g o n ∧ w.heap[g]? = some (.cells cells e (0, 0)) ∧ o + n ≤ cells.size ∧ xs.length * sz ≤ n ∧
      (∀ (k : Nat) (x : List AV), xs[k]? = some x → x.length = sz) ∧
      ∀ (k : Nat) (x : List AV) (j : Nat) (c : AV), xs[k]? = some x → x[j]? = some c → ∃ u, cells[o + (k * sz + j)]? = some u ∧ u.oneCell' = true ∧ VP w ok c u
  | .map es => ∃ g ents clock, l = .at g 0 0 ∧ w.heap[g]? = some (.map ents clock) ∧ ents.size = es.length ∧
      ∀ (i : Nat) (k : Value) (c : AV) (m : MapEntry), es[i]? = some (k, c) → ents[i]? = some m → m.key = k ∧ VP w ok c m.val
  | .dead => l = .dead

/-- The names' part of the relation. -/
structure HR (C : Ctx) (ρ : Nat → Loc) (U : Nat → Prop) (h : List (Nat × Ob)) (w : World) : Prop where
  hp : ∀ b o, get h b = some o → U b ∧ ObR w (okc C ρ w) ρ U (ρ b) o
  hd : ∀ b, get h b = none → ρ b = .dead
  inj : ∀ b b' g o n o' n', ρ b = .at g o n → ρ b' = .at g o' n' → b = b'
  os : w.os = C.w0.os
  tape : w.tape = C.w0.tape
  output : w.output = C.w0.output
  size : C.w0.heap.size ≤ w.heap.size
  old : ∀ g, g < C.w0.heap.size → ¬ C.ext g → w.heap[g]? = C.w0.heap[g]?
  okl : ∀ g, C.ok g → g < C.w0.heap.size ∧ ¬ C.ext g
  ownl : ∀ g, Owned ρ g → (C.ext g ∨ C.w0.heap.size ≤ g) ∧ g < w.heap.size
  fix : ∀ b l, C.loc b = some l → ρ b = l ∧ U b ∧ ∃ cs, get h b = some (.box cs)

structure St where
  n : Nat
  t : List (Nat × AV)
  h : List (Nat × Ob)

structure R (C : Ctx) (ρ : Nat → Loc) (U : Nat → Prop) (s : St) (a : Act) (w : World) : Prop where
  hr : HR C ρ U s.h w
  defers : a.defers = []
  sz : a.tmps.size = C.nt
  tm : ∀ k x, get s.t k = some x → ∃ u, a.tmps[k]? = some u ∧ VR w (okc C ρ w) ρ U x u

def up (ρ : Nat → Loc) (b : Nat) (l : Loc) : Nat → Loc := fun k => if k = b then l else ρ k
def addU (U : Nat → Prop) (b : Nat) : Nat → Prop := fun k => U k ∨ k = b

/-- Name b goes to the place l, and the world to w': nothing that another name holds, or that is only read, has turned. -/
structure Moved (C : Ctx) (ρ : Nat → Loc) (U : Nat → Prop) (h : List (Nat × Ob)) (w : World) (b : Nat) (l : Loc) (w' : World) : Prop where
  os : w'.os = w.os
  tape : w'.tape = w.tape
  output : w'.output = w.output
  size : w.heap.size ≤ w'.heap.size
  bl : ∀ g, g < w.heap.size → (∀ o n, ρ b ≠ .at g o n) → w'.heap[g]? = w.heap[g]?
  way : (U b ∧ l = ρ b) ∨ (U b ∧ l = .dead ∧ ∀ cs, get h b ≠ some (.box cs)) ∨
    (¬ U b ∧ (l = .nil ∨ ∃ g o n, l = .at g o n ∧ w.heap.size ≤ g ∧ g < w'.heap.size))

section moved
variable {C : Ctx} {ρ : Nat → Loc} {U : Nat → Prop} {h : List (Nat × Ob)} {w w' : World} {b : Nat} {l : Loc}

theorem HR.deadU (hr : HR C ρ U h w) (hu : ¬ U b) : ρ b = .dead := by
  cases hg : get h b with
  | none => exact hr.hd b hg
  | some o => exact absurd (hr.hp b o hg).1 hu

theorem Moved.later (hm : Moved C ρ U h w b l w') : Later U ρ (up ρ b l) := by
  intro k hk
  unfold up
  by_cases e : k = b
  · subst e
    rw [if_pos rfl]
    rcases hm.way with ⟨_, h⟩ | ⟨_, h, _⟩ | ⟨h, _⟩
    · exact .inl h
    · exact .inr h
    · exact absurd hk h
  · rw [if_neg e]; exact .inl rfl

theorem Moved.owned (hm : Moved C ρ U h w b l w') {g : Nat} (ho : Owned (up ρ b l) g) : Owned ρ g ∨ (w.heap.size ≤ g ∧ g < w'.heap.size) := by
  obtain ⟨k, o, n, hk⟩ := ho
  unfold up at hk
  by_cases e : k = b
  · rw [if_pos e] at hk
    rcases hm.way with ⟨_, h⟩ | ⟨_, h, _⟩ | ⟨_, h | ⟨g', o', n', h, h1, h2⟩⟩
    · rw [h] at hk; exact .inl ⟨b, o, n, hk⟩
    · rw [h] at hk; cases hk
    · rw [h] at hk; cases hk
    · rw [h] at hk; cases hk; exact .inr ⟨h1, h2⟩
  · rw [if_neg e] at hk; exact .inl ⟨k, o, n, hk⟩

theorem Moved.okc (hm : Moved C ρ U h w b l w') {g : Nat} (hg : okc C ρ w g) : okc C (up ρ b l) w' g := by
  refine ⟨hg.1, Nat.lt_of_lt_of_le hg.2.1 hm.size, fun ho => ?_⟩
  rcases hm.owned ho with h | h
  · exact hg.2.2 h
  · have := hg.2.1; omega

theorem Moved.same (hm : Moved C ρ U h w b l w') {g : Nat} (hg : Go.Eng.okc C ρ w g) : w'.heap[g]? = w.heap[g]? :=
  hm.bl g hg.2.1 fun o n e => hg.2.2 ⟨b, o, n, e⟩

theorem Moved.vr (hm : Moved C ρ U h w b l w') {x : AV} {u : Value} (hx : VR w (Go.Eng.okc C ρ w) ρ U x u) : VR w' (Go.Eng.okc C (up ρ b l) w') (up ρ b l) (addU U b) x u :=
  hx.mono (fun _ => hm.okc) (fun _ => hm.same) (fun _ h => .inl h) hm.later

theorem Moved.vp (hm : Moved C ρ U h w b l w') {x : AV} {u : Value} (hx : VP w (Go.Eng.okc C ρ w) x u) : VP w' (Go.Eng.okc C (up ρ b l) w') x u :=
  hx.mono (fun _ => hm.okc) (fun _ => hm.same)

theorem ObR.keep (hm : Moved C ρ U h w b l w') {l' : Loc} {ob : Ob} (hl : ∀ g o n, l' = .at g o n → g < w.heap.size ∧ w'.heap[g]? = w.heap[g]?)
    (ho : ObR w (Go.Eng.okc C ρ w) ρ U l' ob) : ObR w' (Go.Eng.okc C (up ρ b l) w') (up ρ b l) (addU U b) l' ob := by
  cases ob with
  | box cs =>
    obtain ⟨g, o, n, e, cells, h1, h2, h3, h4, h5⟩ := ho
    refine ⟨g, o, n, e, cells, h1, (hl g o n h1).2.trans h2, h3, h4, fun j c hj => ?_⟩
    obtain ⟨u, hu, hv⟩ := h5 j c hj
    exact ⟨u, hu, hm.vr hv⟩
  | row e sz xs =>
    rcases ho with ho | ⟨g, o, n, cells, h1, h2, h3, h4, h5, h6⟩
    · exact .inl ho
    · refine .inr ⟨g, o, n, cells, h1, (hl g o n h1).2.trans h2, h3, h4, h5, fun k x j c hk hj => ?_⟩
      obtain ⟨u, hu, h1c, hv⟩ := h6 k x j c hk hj
      exact ⟨u, hu, h1c, hm.vp hv⟩
  | map es =>
    obtain ⟨g, ents, clock, h1, h2, h3, h4⟩ := ho
    exact ⟨g, ents, clock, h1, (hl g 0 0 h1).2.trans h2, h3, fun i k c m hi he => ⟨(h4 i k c m hi he).1, hm.vp (h4 i k c m hi he).2⟩⟩
  | dead => exact ho

theorem Moved.hr (hm : Moved C ρ U h w b l w') (hr : HR C ρ U h w) {ob : Ob} (hb : (∃ cs, get h b = some (.box cs)) → ∃ cs, ob = .box cs)
    (ho : ObR w' (Go.Eng.okc C (up ρ b l) w') (up ρ b l) (addU U b) l ob) : HR C (up ρ b l) (addU U b) ((b, ob) :: h) w' where
  hp k o hk := by
    by_cases e : b = k
    · subst e
      rw [get_same] at hk
      cases hk
      refine ⟨.inr rfl, ?_⟩
      have : up ρ b l b = l := by simp [up]
      rw [this]; exact ho
    · rw [get_ne _ _ _ _ e] at hk
      have he : up ρ b l k = ρ k := by unfold up; rw [if_neg (fun h => e h.symm)]
      obtain ⟨h1, h2⟩ := hr.hp k o hk
      refine ⟨.inl h1, ?_⟩
      rw [he]
      refine ObR.keep hm (fun g o n hl => ?_) h2
      have hlt := (hr.ownl g ⟨k, o, n, hl⟩).2
      refine ⟨hlt, hm.bl g hlt fun o' n' h' => ?_⟩
      exact e (hr.inj b k g o' n' o n h' hl)
  hd k hk := by
    by_cases e : b = k
    · subst e; rw [get_same] at hk; cases hk
    · rw [get_ne _ _ _ _ e] at hk
      unfold up; rw [if_neg (fun h => e h.symm)]; exact hr.hd k hk
  inj k k' g o n o' n' h1 h2 := by
    have key : ∀ k o n, up ρ b l k = .at g o n → (k = b ∧ (ρ b = .at g o n ∨ w.heap.size ≤ g)) ∨ (k ≠ b ∧ ρ k = .at g o n) := by
      intro k o n hk
      unfold up at hk
      by_cases e : k = b
      · rw [if_pos e] at hk
        refine .inl ⟨e, ?_⟩
        rcases hm.way with ⟨_, h⟩ | ⟨_, h, _⟩ | ⟨_, h | ⟨g', o', n', h, h1, h2⟩⟩
        · rw [h] at hk; exact .inl hk
        · rw [h] at hk; cases hk
        · rw [h] at hk; cases hk
        · rw [h] at hk; cases hk; exact .inr h1
      · rw [if_neg e] at hk; exact .inr ⟨e, hk⟩
    rcases key k o n h1 with ⟨e1, a1⟩ | ⟨e1, a1⟩ <;> rcases key k' o' n' h2 with ⟨e2, a2⟩ | ⟨e2, a2⟩
    · rw [e1, e2]
    · rcases a1 with a1 | a1
      · rw [e1]; exact hr.inj _ _ _ _ _ _ _ a1 a2
      · have := (hr.ownl g ⟨k', o', n', a2⟩).2; omega
    · rcases a2 with a2 | a2
      · rw [e2]; exact hr.inj _ _ _ _ _ _ _ a1 a2
      · have := (hr.ownl g ⟨k, o, n, a1⟩).2; omega
    · exact hr.inj _ _ _ _ _ _ _ a1 a2
  os := hm.os.trans hr.os
  tape := hm.tape.trans hr.tape
  output := hm.output.trans hr.output
  size := Nat.le_trans hr.size hm.size
  old g hg he := by
    rw [← hr.old g hg he]
    refine hm.bl g (Nat.lt_of_lt_of_le hg hr.size) fun o n e => ?_
    rcases (hr.ownl g ⟨b, o, n, e⟩).1 with h | h
    · exact he h
    · omega
  okl := hr.okl
  ownl g ho := by
    rcases hm.owned ho with h | h
    · exact ⟨(hr.ownl g h).1, Nat.lt_of_lt_of_le (hr.ownl g h).2 hm.size⟩
    · exact ⟨.inr (by have := hr.size; omega), h.2⟩
  fix k l' hk := by
    obtain ⟨h1, h2, cs, h3⟩ := hr.fix k l' hk
    by_cases e : b = k
    · subst e
      obtain ⟨cs', hcs⟩ := hb ⟨cs, h3⟩
      refine ⟨?_, .inl h2, cs', by rw [get_same, hcs]⟩
      have : up ρ b l b = l := by simp [up]
      rw [this]
      rcases hm.way with ⟨_, h⟩ | ⟨_, _, h⟩ | ⟨h, _⟩
      · rw [h]; exact h1
      · exact absurd h3 (h cs)
      · exact absurd h2 h
    · refine ⟨?_, .inl h2, cs, by rw [get_ne _ _ _ _ e]; exact h3⟩
      unfold up; rw [if_neg (fun h => e h.symm)]; exact h1

/-- What the temporaries hold is kept. -/
theorem Moved.tm (hm : Moved C ρ U h w b l w') {a : Act} {t : List (Nat × AV)} (ht : ∀ k x, get t k = some x → ∃ u, a.tmps[k]? = some u ∧ VR w (Go.Eng.okc C ρ w) ρ U x u) :
    ∀ k x, get t k = some x → ∃ u, a.tmps[k]? = some u ∧ VR w' (Go.Eng.okc C (up ρ b l) w') (up ρ b l) (addU U b) x u := by
  intro k x hk
  obtain ⟨u, h1, h2⟩ := ht k x hk
  exact ⟨u, h1, hm.vr h2⟩
end moved

/-- The world turns in what it counts alone. -/
theorem HR.world {C : Ctx} {ρ : Nat → Loc} {U : Nat → Prop} {h : List (Nat × Ob)} {w w' : World} (hr : HR C ρ U h w) (e1 : w'.heap = w.heap) (e2 : w'.os = w.os)
    (e3 : w'.tape = w.tape) (e4 : w'.output = w.output) : HR C ρ U h w' ∧ ∀ x u, VR w (okc C ρ w) ρ U x u → VR w' (okc C ρ w') ρ U x u := by
  have ho : okc C ρ w' = okc C ρ w := by unfold okc; rw [e1]
  have hv : ∀ x u, VR w (okc C ρ w) ρ U x u → VR w' (okc C ρ w') ρ U x u := fun x u hx => by
    rw [ho]; exact hx.mono (fun _ h => h) (fun g _ => by rw [e1]) (fun _ h => h) (fun _ _ => .inl rfl)
  have hvp : ∀ x u, VP w (okc C ρ w) x u → VP w' (okc C ρ w') x u := fun x u hx => by
    rw [ho]; exact hx.mono (fun _ h => h) (fun g _ => by rw [e1])
  refine ⟨⟨fun b o hb => ⟨(hr.hp b o hb).1, ?_⟩, hr.hd, hr.inj, e2.trans hr.os, e3.trans hr.tape, e4.trans hr.output, by rw [e1]; exact hr.size,
    fun g h1 h2 => by rw [e1]; exact hr.old g h1 h2, hr.okl, fun g h1 => by rw [e1]; exact hr.ownl g h1, hr.fix⟩, hv⟩
  have h2 := (hr.hp b o hb).2
  cases o with
  | box cs =>
    obtain ⟨g, o, n, e, cells, h1, h2, h3, h4, h5⟩ := h2
    refine ⟨g, o, n, e, cells, h1, by rw [e1]; exact h2, h3, h4, fun j c hj => ?_⟩
    obtain ⟨u, hu, hx⟩ := h5 j c hj
    exact ⟨u, hu, hv _ _ hx⟩
  | row e sz xs =>
    rcases h2 with h2 | ⟨g, o, n, cells, h1, h2, h3, h4, h5, h6⟩
    · exact .inl h2
    · refine .inr ⟨g, o, n, cells, h1, by rw [e1]; exact h2, h3, h4, h5, fun k x j c hk hj => ?_⟩
      obtain ⟨u, hu, h1c, hx⟩ := h6 k x j c hk hj
      exact ⟨u, hu, h1c, hvp _ _ hx⟩
  | map es =>
    obtain ⟨g, ents, clock, h1, h2, h3, h4⟩ := h2
    exact ⟨g, ents, clock, h1, by rw [e1]; exact h2, h3, fun i k c m hi he => ⟨(h4 i k c m hi he).1, hvp _ _ (h4 i k c m hi he).2⟩⟩
  | dead => exact h2

end Go.Eng
