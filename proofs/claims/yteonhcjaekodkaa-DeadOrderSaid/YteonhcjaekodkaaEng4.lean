/-
  The engine, part 4: code over abstract states.
  No condition: definitions, and the words by which simp walks them (it looks at the state alone, never into what comes later).
-/
import Derived.Test.YteonhcjaekodkaaEng2
set_option linter.all false
namespace Go.Eng
open Go

/-- A function that can be entered. -/
def Enters (P : Program) (f : FuncId) : Prop := ∃ fn, P.funcs[f]? = some fn ∧ (fn.name == "runtime.NumGoroutine") = false ∧ fn.body.isNone = false

/-- A call at an abstract state: what the callee gives back, whatever the world is. Names from nm to nm+7 may be made. -/
def wpCall (P : Program) (nm : Nat) (f : FuncId) (args : List AV) (h : List (Nat × Ob)) (Q : AV → List (Nat × Ob) → Prop) : Prop :=
  Enters P f ∧ ∀ C ρ U w vals, HR C ρ U h w → (∀ b, U b → ¬ (nm ≤ b ∧ b < nm + 8)) → VL w (okc C ρ w) ρ U args vals →
    Calls P f vals w fun e w' => ∃ v r h' ρ' U', e = .returned v ∧ HR C ρ' U' h' w' ∧ VR w' (okc C ρ' w') ρ' U' r v ∧
      (∀ x u, VR w (okc C ρ w) ρ U x u → VR w' (okc C ρ' w') ρ' U' x u) ∧ (∀ b, U' b → U b ∨ (nm ≤ b ∧ b < nm + 8)) ∧ Q r h'


def putA (t : List (Nat × AV)) (dst : Option Nat) (x : AV) : List (Nat × AV) :=
  match dst with
  | some d => (d, x) :: t
  | none => t

/-- Two ways, by a test. -/
def Split (b : Bool) (x y : Prop) : Prop := (b = true → x) ∧ (b = false → y)
theorem Split_true (x y : Prop) : Split true x y = x := by simp [Split]
theorem Split_false (x y : Prop) : Split false x y = y := by simp [Split]
theorem Split.mk {b : Bool} {x y : Prop} (h : b = true → x) (h' : b = false → y) : Split b x y := ⟨h, h'⟩

def onE (x : Option E) (k : E → Prop) : Prop := match x with
  | some e => e.pre ∧ k e
  | none => False
theorem onE_some (e : E) (k : E → Prop) : onE (some e) k = (e.pre ∧ k e) := rfl

def onG (x : Option AV) (k : Bool → Prop) (d : Prop) : Prop := match x with
  | some (.v (.bool b)) => k b
  | some (.v (.tuple _)) => d
  | _ => False
theorem onG_bool (b : Bool) (k : Bool → Prop) (d : Prop) : onG (some (.v (.bool b))) k d = k b := rfl
theorem onG_undef (k : Bool → Prop) (d : Prop) : onG (some (.v undef)) k d = d := rfl

def onF (x : Option AV) (y : Option (List AV)) (k : FuncId → List AV → Prop) : Prop := match x, y with
  | some (.fn g caps), some xs => k g (xs ++ caps)
  | _, _ => False
theorem onF_fn (g : FuncId) (caps xs : List AV) (k : FuncId → List AV → Prop) : onF (some (.fn g caps)) (some xs) k = k g (xs ++ caps) := rfl

def onNil (x : Option (Option Bool)) (k : Bool → Prop) : Prop := match x with
  | some (some b) => k b
  | some none => k true ∧ k false
  | none => False

/-- Forgetting and freezing, in the midst of a walk. -/
def WkTH (t : List (Nat × AV)) (h : List (Nat × Ob)) (t' : List (Nat × AV)) (h' : List (Nat × Ob)) : Prop :=
  ∀ C ρ U a w, R C ρ U ⟨0, t, h⟩ a w → ∃ ρ' U', R C ρ' U' ⟨0, t', h'⟩ a w ∧ ∀ b, U' b → U b

/-- What an operation comes to; where the state as it is does not say, it may be weakened first. -/
def onW (nm : Nat) (t : List (Nat × AV)) (h : List (Nat × Ob)) (op : SOp) (x : Option E) (k : List (Nat × AV) → List (Nat × Ob) → E → Prop) : Prop := match x with
  | some e => e.pre ∧ k t h e
  | none => ∃ t' h', WkTH t h t' h' ∧ onE (eff nm t' h' op) (k t' h')

def wpOper (P : Program) (nm : Nat) (o : SOper) (t : List (Nat × AV)) (h : List (Nat × Ob)) (Q : List (Nat × AV) → List (Nat × Ob) → Prop) : Prop :=
  match o.op with
  | .call f args => onF (ev t f) (evL t args) fun g xs => wpCall P nm g xs h fun r h' => Q (putA t o.dst r) h'
  | .isnil neg x => onNil (nilK (ev t x)) fun b => Q (putA t o.dst (.v (.bool (if neg then !b else b)))) h
  | op => onW nm t h op (eff nm t h op) fun t h e => Q (putA t o.dst e.val) (e.upd ++ h)

def wpOps (P : Program) : Nat → List SOper → List (Nat × AV) → List (Nat × Ob) → (List (Nat × AV) → List (Nat × Ob) → Prop) → Prop
  | _, [], t, h, Q => Q t h
  | nm, o :: l, t, h, Q => match o.guard with
    | none => wpOper P nm o t h fun t' h' => wpOps P (nm + 8) l t' h' Q
    | some (g, want) => onG (get t g)
      (fun b => Split b
        (bif want then wpOper P nm o t h fun t' h' => wpOps P (nm + 8) l t' h' Q else wpOps P (nm + 8) l (putA t o.dst (.v undef)) h Q)
        (bif want then wpOps P (nm + 8) l (putA t o.dst (.v undef)) h Q else wpOper P nm o t h fun t' h' => wpOps P (nm + 8) l t' h' Q))
      (wpOps P (nm + 8) l (putA t o.dst (.v undef)) h Q)

/-- Forgetting, and renaming. -/
def Wk (s s' : St) : Prop :=
  ∀ C ρ U a w, R C ρ U s a w → (∀ b, U b → b < s.n) → ∃ ρ' U', R C ρ' U' s' a w ∧ (∀ b, U' b → b < s'.n)

/-! A region whose order is open: each operation looks at its operands and at some names alone, and those that are not ordered don't meet. -/

/-- What an operation came to: its value, the names that it turned, the names that it looked at. -/
structure Rec where
  val : AV
  upd : List (Nat × Ob)
  rd : List Nat

/-- What a call comes to, wherever the names that it looks at are alike. -/
def CallD (P : Program) (nm : Nat) (f : FuncId) (args : List AV) (h : List (Nat × Ob)) (r : Rec) : Prop :=
  ∀ h', (∀ b ∈ r.rd, get h' b = get h b) → ∀ Q : AV → List (Nat × Ob) → Prop, Q r.val (r.upd ++ h') → wpCall P nm f args h' Q

def opnds : SOp → List Operand
  | .mov x => [x]
  | .pick c a b => [c, a, b]
  | .alloc _ => []
  | .box x => [x]
  | .build _ ps => ps.map fun p => p.2.2
  | .bslice _ _ _ _ ps => ps.map fun p => p.2
  | .load _ _ x => [x]
  | .store _ x y => [x, y]
  | .nilc x => [x]
  | .bin _ x y => [x, y]
  | .eqs _ _ x y => [x, y]
  | .eqb _ x y => [x, y]
  | .isnil _ x => [x]
  | .un _ x => [x]
  | .conv _ x => [x]
  | .s2b _ x => [x]
  | .b2s x => [x]
  | .mkfn _ cs => cs
  | .mkmap => []
  | .look _ m k => [m, k]
  | .mput m k x => [m, k, x]
  | .mkslice _ _ _ _ l c => [l, c]
  | .slice _ x lo hi mx => x :: (lo.toList ++ (hi.toList ++ mx.toList))
  | .sslice x lo hi => x :: (lo.toList ++ hi.toList)
  | .faddr _ x => [x]
  | .fld _ _ _ x => [x]
  | .iaddr _ x i => [x, i]
  | .iaddrA _ _ x i => [x, i]
  | .idx _ _ _ x i => [x, i]
  | .idxs x i => [x, i]
  | .len x => [x]
  | .slen x => [x]
  | .cap x => [x]
  | .app _ _ _ _ s x => [s, x]
  | .appz _ _ _ _ s x => [s, x]
  | .clr _ _ x => [x]
  | .bad => []
  | .ext _ x => [x]
  | .minmax _ xs => xs
  | .call f args => f :: args

def tmpsO : List Operand → List Nat
  | [] => []
  | .tmp k :: l => k :: tmpsO l
  | _ :: l => tmpsO l

/-- The temporaries that an operation looks at. -/
def uses (o : SOper) : List Nat := match o.guard with
  | some (g, _) => g :: tmpsO (opnds o.op)
  | none => tmpsO (opnds o.op)

/-- The name that a value holds itself. -/
def AV.nms : AV → List Nat
  | .own b _ _ _ => [b]
  | .ptr b _ => [b]
  | .rp b _ _ _ => [b]
  | .mp b => [b]
  | _ => []
def nmsO (x : Option AV) : List Nat := match x with
  | some y => y.nms
  | none => []

/-- The names that an operation looks at. -/
def rdOf (t : List (Nat × AV)) : SOp → List Nat
  | .load _ _ x => nmsO (ev t x)
  | .store _ x _ => nmsO (ev t x)
  | .nilc x => nmsO (ev t x)
  | .b2s x => nmsO (ev t x)
  | .look _ m _ => nmsO (ev t m)
  | .mput m _ _ => nmsO (ev t m)
  | .slice _ x _ _ _ => nmsO (ev t x)
  | .faddr _ x => nmsO (ev t x)
  | .iaddr _ x _ => nmsO (ev t x)
  | .iaddrA _ _ x _ => nmsO (ev t x)
  | .len x => nmsO (ev t x)
  | .cap x => nmsO (ev t x)
  | .app _ _ _ _ s x => nmsO (ev t s) ++ nmsO (ev t x)
  | .appz _ _ _ _ s x => nmsO (ev t s) ++ nmsO (ev t x)
  | .clr _ _ x => nmsO (ev t x)
  | _ => []

def onNilD (x : Option (Option Bool)) (k : Bool → Prop) : Prop := match x with
  | some (some b) => k b
  | _ => False

def wpOpD (P : Program) (nm : Nat) (o : SOper) (t : List (Nat × AV)) (h : List (Nat × Ob)) (k : Rec → Prop) : Prop :=
  match o.op with
  | .call f args => onF (ev t f) (evL t args) fun g xs => ∃ r, CallD P nm g xs h r ∧ k r
  | .isnil neg x => onNilD (nilK (ev t x)) fun b => k ⟨.v (.bool (if neg then !b else b)), [], []⟩
  | op => onE (eff nm t h op) fun e => k ⟨e.val, e.upd, rdOf t op⟩

abbrev Foot := List Nat × List Nat

def wpDrawL (P : Program) : Nat → List SOper → List Foot → List (Nat × AV) → List (Nat × Ob) → (List Foot → List (Nat × AV) → List (Nat × Ob) → Prop) → Prop
  | _, [], acc, t, h, Q => Q acc t h
  | nm, o :: l, acc, t, h, Q => match o.guard with
    | none => wpOpD P nm o t h fun r => wpDrawL P (nm + 8) l ((r.rd, r.upd.map Prod.fst) :: acc) (putA t o.dst r.val) (r.upd ++ h) Q
    | some (g, want) => onG (get t g)
      (fun b => Split b
        (bif want then wpOpD P nm o t h fun r => wpDrawL P (nm + 8) l ((r.rd, r.upd.map Prod.fst) :: acc) (putA t o.dst r.val) (r.upd ++ h) Q
          else wpDrawL P (nm + 8) l (([], []) :: acc) (putA t o.dst (.v undef)) h Q)
        (bif want then wpDrawL P (nm + 8) l (([], []) :: acc) (putA t o.dst (.v undef)) h Q
          else wpOpD P nm o t h fun r => wpDrawL P (nm + 8) l ((r.rd, r.upd.map Prod.fst) :: acc) (putA t o.dst r.val) (r.upd ++ h) Q))
      (wpDrawL P (nm + 8) l (([], []) :: acc) (putA t o.dst (.v undef)) h Q)

/-- For each operation the operations that surely come before it, as bits. -/
def befGo : List Nat → List (List Nat) → List Nat
  | acc, [] => acc
  | acc, af :: l => befGo (acc ++ [af.foldl (fun s e => s ||| (2 ^ e ||| acc.getD e 0)) 0]) l

def offB (xs ys : List Nat) : Bool := xs.all fun b => !ys.contains b

def noconf (x y : SOper × Foot) : Bool :=
  (match x.1.dst with
    | some d => !(uses y.1).contains d && y.1.dst != some d
    | none => true) &&
  ((match y.1.dst with
    | some d => !(uses x.1).contains d
    | none => true) &&
  (offB x.2.2 y.2.1 && (offB x.2.2 y.2.2 && offB y.2.2 x.2.1)))

def okPairs (bef : List Nat) (all : List (SOper × Foot)) : Nat → List (SOper × Foot) → Bool
  | _, [] => true
  | j, y :: l => (all.take j).zipIdx.all (fun x => (bef.getD j 0).testBit x.2 || noconf x.1 y) && okPairs bef all (j + 1) l

def okAfter : Nat → List SOper → Bool
  | _, [] => true
  | j, o :: l => o.after.all (fun e => decide (e < j)) && okAfter (j + 1) l

def okDraw (ops : List SOper) (fs : List Foot) : Bool :=
  okAfter 0 ops && okPairs (befGo [] (ops.map (·.after))) (ops.zip fs) 0 (ops.zip fs)

def wpDraw (P : Program) (nm : Nat) (ops : List SOper) (t : List (Nat × AV)) (h : List (Nat × Ob)) (Q : List (Nat × AV) → List (Nat × Ob) → Prop) : Prop :=
  wpDrawL P nm ops [] t h fun acc t h => okDraw ops acc.reverse = true ∧ Q t h

def seqK (k : St → Prop) (Q : Exit → St → Prop) (e : Exit) (s : St) : Prop := match e with
  | .normal => k s
  | e => Q e s
theorem seqK_normal (k : St → Prop) (Q : Exit → St → Prop) (s : St) : seqK k Q .normal s = k s := rfl
theorem seqK_ret (k : St → Prop) (Q : Exit → St → Prop) (s : St) : seqK k Q .ret s = Q .ret s := rfl
theorem seqK_exit (k : St → Prop) (Q : Exit → St → Prop) (i : Nat) (s : St) : seqK k Q (.exit i) s = Q (.exit i) s := rfl

def blockK (id : Nat) (Q : Exit → St → Prop) (e : Exit) (s : St) : Prop := match e with
  | .exit id' => Q (if id' = id then .normal else .exit id') s
  | e => Q e s
theorem blockK_normal (id : Nat) (Q : Exit → St → Prop) (s : St) : blockK id Q .normal s = Q .normal s := rfl
theorem blockK_ret (id : Nat) (Q : Exit → St → Prop) (s : St) : blockK id Q .ret s = Q .ret s := rfl
theorem blockK_exit (id i : Nat) (Q : Exit → St → Prop) (s : St) : blockK id Q (.exit i) s = Q (if i = id then .normal else .exit i) s := rfl

/-- A loop: a family of states at its head, a measure. -/
def wpLoop (body : (Exit → St → Prop) → St → Prop) (Q : Exit → St → Prop) (s : St) : Prop :=
  ∃ (α : Type) (S : α → St) (μ : α → Nat) (a0 : α), Wk s (S a0) ∧
      ∀ a, body (seqK (fun s' => ∃ a', μ a' < μ a ∧ Wk s' (S a')) Q) (S a)

def wpc (P : Program) : SCode → (Exit → St → Prop) → St → Prop
  | .skip, Q, s => Q .normal s
  | .region ops draw, Q, s => if draw = true then wpDraw P s.n ops s.t s.h (fun t h => Q .normal ⟨s.n + 8 * ops.length, t, h⟩)
      else wpOps P s.n ops s.t s.h fun t h => Q .normal ⟨s.n + 8 * ops.length, t, h⟩
  | .seq a b, Q, s => wpc P a (seqK (wpc P b Q) Q) s
  | .cond c x y, Q, s => onG (ev s.t c) (fun b => Split b (wpc P x Q s) (wpc P y Q s)) False
  | .block id c, Q, s => wpc P c (blockK id Q) s
  | .loop c, Q, s => wpLoop (wpc P c) Q s
  | .exit id, Q, s => Q (.exit id) s
  | .ret, Q, s => Q .ret s

end Go.Eng
