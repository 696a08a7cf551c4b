/-
  The engine, joined part C: an abstract interpreter over the kit's calls, and its soundness.
  No condition beyond those that each theorem states.
-/
import Derived.WalkSpells
import Derived.Orders
import Derived.Test.YtfcecgfjjamlcaaGreatEngB
set_option linter.all false
namespace Go.Eng
open Go
def Enters (P : Program) (f : FuncId) : Prop := ∃ fn, P.funcs[f]? = some fn ∧ (fn.name == "runtime.NumGoroutine") = false ∧ fn.body.isNone = false
def wpCall (P : Program) (nm : Nat) (f : FuncId) (args : List AV) (h : List (Nat × Ob)) (Q : AV → List (Nat × Ob) → Prop) : Prop :=
  Enters P f ∧ ∀ C ρ U w vals, HR C ρ U h w → (∀ b, U b → ¬ (nm ≤ b ∧ b < nm + 8)) → VL w (okc C ρ w) ρ U args vals →
    Calls P f vals w fun e w' => ∃ v r h' ρ' U', e = .returned v ∧ HR C ρ' U' h' w' ∧ VR w' (okc C ρ' w') ρ' U' r v ∧
      (∀ x u, VR w (okc C ρ w) ρ U x u → VR w' (okc C ρ' w') ρ' U' x u) ∧ (∀ b, U' b → U b ∨ (nm ≤ b ∧ b < nm + 8)) ∧ Q r h'
def putA (t : List (Nat × AV)) (dst : Option Nat) (x : AV) : List (Nat × AV) :=
  match dst with
  | some d => (d, x) :: t
  | none => t
def Split (b : Bool) (x y : Prop) : Prop := (b = true → x) ∧ (b = false → y)
theorem Split_true (x y : Prop) : Split true x y = x := by simp [Split]
theorem Split_false (x y : Prop) : Split false x y = y := by simp [Split]
theorem Split.mk {b : Bool} {x y : Prop} (h : b = true → x) (h' : b = false → y) : Split b x y := ⟨h, h'⟩
def onE (x : Option E) (k : E → Prop) : Prop := match x with
  | some e => e.pre ∧ k e
  | none => False
def onG (x : Option AV) (k : Bool → Prop) (d : Prop) : Prop := match x with
  | some (.v (.bool b)) => k b
  | some (.v (.tuple _)) => d
  | _ => False
theorem onG_bool (b : Bool) (k : Bool → Prop) (d : Prop) : onG (some (.v (.bool b))) k d = k b := rfl
def onF (x : Option AV) (y : Option (List AV)) (k : FuncId → List AV → Prop) : Prop := match x, y with
  | some (.fn g caps), some xs => if g < 1000000 then k g (xs ++ caps) else if g < 2000000 then k (g - 1000000) (caps ++ xs) else False
  | _, _ => False
theorem onF_fn (g : FuncId) (caps xs : List AV) (k : FuncId → List AV → Prop) : onF (some (.fn g caps)) (some xs) k = if g < 1000000 then k g (xs ++ caps) else if g < 2000000 then k (g - 1000000) (caps ++ xs) else False := rfl
def onNil (x : Option (Option Bool)) (k : Bool → Prop) : Prop := match x with
  | some (some b) => k b
  | some none => k true ∧ k false
  | none => False
def WkTH (t : List (Nat × AV)) (h : List (Nat × Ob)) (t' : List (Nat × AV)) (h' : List (Nat × Ob)) : Prop :=
  ∀ C ρ U a w, R C ρ U ⟨0, t, h⟩ a w → ∃ ρ' U', R C ρ' U' ⟨0, t', h'⟩ a w ∧ ∀ b, U' b → U b
def onW (nm : Nat) (t : List (Nat × AV)) (h : List (Nat × Ob)) (op : SOp) (x : Option E) (k : List (Nat × AV) → List (Nat × Ob) → E → Prop) : Prop := match x with
  | some e => e.pre ∧ k t h e
  | none => ∃ t' h', WkTH t h t' h' ∧ onE (eff nm t' h' op) (k t' h')
def wpOper (P : Program) (nm : Nat) (o : SOper) (t : List (Nat × AV)) (h : List (Nat × Ob)) (Q : List (Nat × AV) → List (Nat × Ob) → Prop) : Prop :=
  match o.op with
  | .call f args => onF (ev t f) (evL t args) fun g xs => wpCall P nm g xs h fun r h' => Q (putA t o.dst r) h'
  | .isnil neg x => onNil (nilK (ev t x)) fun b => Q (putA t o.dst (.v (.bool (if neg then !b else b)))) h
  | op => onW nm t h op (eff nm t h op) fun t h e => Q (putA t o.dst e.val) (e.upd ++ h)
def wpOps (P : Program) : Nat → List SOper → List (Nat × AV) → List (Nat × Ob) → (List (Nat × AV) → List (Nat × Ob) → Prop) → Prop
  | _, [], t, h, Q => Q t h
  | nm, o :: l, t, h, Q => match o.guard with
    | none => wpOper P nm o t h fun t' h' => wpOps P (nm + 8) l t' h' Q
    | some (g, want) => onG (get t g)
      (fun b => Split b
        (bif want then wpOper P nm o t h fun t' h' => wpOps P (nm + 8) l t' h' Q else wpOps P (nm + 8) l (putA t o.dst (.v undef)) h Q)
        (bif want then wpOps P (nm + 8) l (putA t o.dst (.v undef)) h Q else wpOper P nm o t h fun t' h' => wpOps P (nm + 8) l t' h' Q))
      (wpOps P (nm + 8) l (putA t o.dst (.v undef)) h Q)
def Wk (s s' : St) : Prop :=
  ∀ C ρ U a w, R C ρ U s a w → (∀ b, U b → b < s.n) → ∃ ρ' U', R C ρ' U' s' a w ∧ (∀ b, U' b → b < s'.n)
structure Rec where
  val : AV
  upd : List (Nat × Ob)
  rd : List Nat
def CallD (P : Program) (nm : Nat) (f : FuncId) (args : List AV) (h : List (Nat × Ob)) (r : Rec) : Prop :=
  ∀ h', (∀ b ∈ r.rd, get h' b = get h b) → ∀ Q : AV → List (Nat × Ob) → Prop, Q r.val (r.upd ++ h') → wpCall P nm f args h' Q
def opnds : SOp → List Operand
  | .mov x => [x]
  | .pick c a b => [c, a, b]
  | .alloc _ => []
  | .box x => [x]
  | .build _ ps => ps.map fun p => p.2.2
  | .bslice _ _ _ _ ps => ps.map fun p => p.2
  | .load _ _ x => [x]
  | .store _ x y => [x, y]
  | .nilc x => [x]
  | .bin _ x y => [x, y]
  | .eqs _ _ x y => [x, y]
  | .eqb _ x y => [x, y]
  | .isnil _ x => [x]
  | .un _ x => [x]
  | .conv _ x => [x]
  | .s2b _ x => [x]
  | .b2s x => [x]
  | .mkfn _ cs => cs
  | .mkmfn _ cs => cs
  | .mkmap => []
  | .look _ m k => [m, k]
  | .look2 _ m k => [m, k]
  | .mput m k x => [m, k, x]
  | .mkslice _ _ _ _ l c => [l, c]
  | .slice _ x lo hi mx => x :: (lo.toList ++ (hi.toList ++ mx.toList))
  | .sslice x lo hi => x :: (lo.toList ++ hi.toList)
  | .faddr _ x => [x]
  | .fld _ _ _ x => [x]
  | .iaddr _ x i => [x, i]
  | .iaddrA _ _ x i => [x, i]
  | .idx _ _ _ x i => [x, i]
  | .idxs x i => [x, i]
  | .len x => [x]
  | .slen x => [x]
  | .cap x => [x]
  | .app _ _ _ _ s x => [s, x]
  | .appz _ _ _ _ s x => [s, x]
  | .clr _ _ x => [x]
  | .copy _ d x => [d, x]
  | .bad => []
  | .ext _ x => [x]
  | .minmax _ xs => xs
  | .call f args => f :: args
def tmpsO : List Operand → List Nat
  | [] => []
  | .tmp k :: l => k :: tmpsO l
  | _ :: l => tmpsO l
def uses (o : SOper) : List Nat := match o.guard with
  | some (g, _) => g :: tmpsO (opnds o.op)
  | none => tmpsO (opnds o.op)
def AV.nms : AV → List Nat
  | .own b _ _ _ => [b]
  | .ptr b _ => [b]
  | .rp b _ _ _ => [b]
  | .mp b => [b]
  | _ => []
def nmsO (x : Option AV) : List Nat := match x with
  | some y => y.nms
  | none => []
def rdOf (t : List (Nat × AV)) : SOp → List Nat
  | .load _ _ x => nmsO (ev t x)
  | .store _ x _ => nmsO (ev t x)
  | .nilc x => nmsO (ev t x)
  | .b2s x => nmsO (ev t x)
  | .look _ m _ => nmsO (ev t m)
  | .look2 _ m _ => nmsO (ev t m)
  | .mput m _ _ => nmsO (ev t m)
  | .slice _ x _ _ _ => nmsO (ev t x)
  | .faddr _ x => nmsO (ev t x)
  | .iaddr _ x _ => nmsO (ev t x)
  | .iaddrA _ _ x _ => nmsO (ev t x)
  | .len x => nmsO (ev t x)
  | .cap x => nmsO (ev t x)
  | .app _ _ _ _ s x => nmsO (ev t s) ++ nmsO (ev t x)
  | .appz _ _ _ _ s x => nmsO (ev t s) ++ nmsO (ev t x)
  | .clr _ _ x => nmsO (ev t x)
  | .copy _ d x => nmsO (ev t d) ++ nmsO (ev t x)
  | _ => []
def onNilD (x : Option (Option Bool)) (k : Bool → Prop) : Prop := match x with
  | some (some b) => k b
  | _ => False
def wpOpD (P : Program) (nm : Nat) (o : SOper) (t : List (Nat × AV)) (h : List (Nat × Ob)) (k : Rec → Prop) : Prop :=
  match o.op with
  | .call f args => onF (ev t f) (evL t args) fun g xs => ∃ r, CallD P nm g xs h r ∧ k r
  | .isnil neg x => onNilD (nilK (ev t x)) fun b => k ⟨.v (.bool (if neg then !b else b)), [], []⟩
  | op => onE (eff nm t h op) fun e => k ⟨e.val, e.upd, rdOf t op⟩
abbrev Foot := List Nat × List Nat
def wpDrawL (P : Program) : Nat → List SOper → List Foot → List (Nat × AV) → List (Nat × Ob) → (List Foot → List (Nat × AV) → List (Nat × Ob) → Prop) → Prop
  | _, [], acc, t, h, Q => Q acc t h
  | nm, o :: l, acc, t, h, Q => match o.guard with
    | none => wpOpD P nm o t h fun r => wpDrawL P (nm + 8) l ((r.rd, r.upd.map Prod.fst) :: acc) (putA t o.dst r.val) (r.upd ++ h) Q
    | some (g, want) => onG (get t g)
      (fun b => Split b
        (bif want then wpOpD P nm o t h fun r => wpDrawL P (nm + 8) l ((r.rd, r.upd.map Prod.fst) :: acc) (putA t o.dst r.val) (r.upd ++ h) Q
          else wpDrawL P (nm + 8) l (([], []) :: acc) (putA t o.dst (.v undef)) h Q)
        (bif want then wpDrawL P (nm + 8) l (([], []) :: acc) (putA t o.dst (.v undef)) h Q
          else wpOpD P nm o t h fun r => wpDrawL P (nm + 8) l ((r.rd, r.upd.map Prod.fst) :: acc) (putA t o.dst r.val) (r.upd ++ h) Q))
      (wpDrawL P (nm + 8) l (([], []) :: acc) (putA t o.dst (.v undef)) h Q)
def befGo : List Nat → List (List Nat) → List Nat
  | acc, [] => acc
  | acc, af :: l => befGo (acc ++ [af.foldl (fun s e => s ||| (2 ^ e ||| acc.getD e 0)) 0]) l
def offB (xs ys : List Nat) : Bool := xs.all fun b => !ys.contains b
def noconf (x y : SOper × Foot) : Bool :=
  (match x.1.dst with
    | some d => !(uses y.1).contains d && y.1.dst != some d
    | none => true) &&
  ((match y.1.dst with
    | some d => !(uses x.1).contains d
    | none => true) &&
  (offB x.2.2 y.2.1 && (offB x.2.2 y.2.2 && offB y.2.2 x.2.1)))
def okPairs (bef : List Nat) (all : List (SOper × Foot)) : Nat → List (SOper × Foot) → Bool
  | _, [] => true
  | j, y :: l => (all.take j).zipIdx.all (fun x => (bef.getD j 0).testBit x.2 || noconf x.1 y) && okPairs bef all (j + 1) l
def okAfter : Nat → List SOper → Bool
  | _, [] => true
  | j, o :: l => o.after.all (fun e => decide (e < j)) && okAfter (j + 1) l
def okDraw (ops : List SOper) (fs : List Foot) : Bool :=
  okAfter 0 ops && okPairs (befGo [] (ops.map (·.after))) (ops.zip fs) 0 (ops.zip fs)
def wpDraw (P : Program) (nm : Nat) (ops : List SOper) (t : List (Nat × AV)) (h : List (Nat × Ob)) (Q : List (Nat × AV) → List (Nat × Ob) → Prop) : Prop :=
  wpDrawL P nm ops [] t h fun acc t h => okDraw ops acc.reverse = true ∧ Q t h
def seqK (k : St → Prop) (Q : Exit → St → Prop) (e : Exit) (s : St) : Prop := match e with
  | .normal => k s
  | e => Q e s
def blockK (id : Nat) (Q : Exit → St → Prop) (e : Exit) (s : St) : Prop := match e with
  | .exit id' => Q (if id' = id then .normal else .exit id') s
  | e => Q e s
def wpLoop (body : (Exit → St → Prop) → St → Prop) (Q : Exit → St → Prop) (s : St) : Prop :=
  ∃ (α : Type) (S : α → St) (μ : α → Nat) (a0 : α), Wk s (S a0) ∧
      ∀ a, body (seqK (fun s' => ∃ a', μ a' < μ a ∧ Wk s' (S a')) Q) (S a)
def wpc (P : Program) : SCode → (Exit → St → Prop) → St → Prop
  | .skip, Q, s => Q .normal s
  | .region ops draw, Q, s => if draw = true then wpDraw P s.n ops s.t s.h (fun t h => Q .normal ⟨s.n + 8 * ops.length, t, h⟩)
      else wpOps P s.n ops s.t s.h fun t h => Q .normal ⟨s.n + 8 * ops.length, t, h⟩
  | .seq a b, Q, s => wpc P a (seqK (wpc P b Q) Q) s
  | .cond c x y, Q, s => onG (ev s.t c) (fun b => Split b (wpc P x Q s) (wpc P y Q s)) False
  | .block id c, Q, s => wpc P c (blockK id Q) s
  | .loop c, Q, s => wpLoop (wpc P c) Q s
  | .exit id, Q, s => Q (.exit id) s
  | .ret, Q, s => Q .ret s
end Go.Eng

namespace Go.Eng
open Go
inductive It where
  | ops (nm n : Nat) (l : List SOper)
  | code (c : SCode)
  | blk (id : Nat)
  | lp (B : St → Prop)
  | drw (nm n : Nat) (l ops : List SOper) (acc : List Foot)
def goN (P : Program) (Q : Exit → St → Prop) : List It → St → Prop
  | [] => Q .normal
  | .ops nm n l :: k => fun s => wpOps P nm l s.t s.h fun t h => goN P Q k ⟨n, t, h⟩
  | .code c :: k => fun s => wpc P c (fun e s' => match e with
      | .normal => goN P Q k s'
      | .exit id => goX P Q id k s'
      | e => Q e s') s
  | .blk _ :: k => goN P Q k
  | .lp B :: _ => B
  | .drw nm n l ops acc :: k => fun s => wpDrawL P nm l acc s.t s.h fun acc t h => okDraw ops acc.reverse = true ∧ goN P Q k ⟨n, t, h⟩
where
  goX (P : Program) (Q : Exit → St → Prop) (id : Nat) : List It → St → Prop
  | [] => Q (.exit id)
  | .blk i :: k => if i = id then goN P Q k else goX P Q id k
  | .ops .. :: k => goX P Q id k
  | .code _ :: k => goX P Q id k
  | .lp _ :: k => goX P Q id k
  | .drw .. :: k => goX P Q id k
def go (P : Program) (k : List It) (Q : Exit → St → Prop) (n : Nat) (t : List (Nat × AV)) (h : List (Nat × Ob)) : Prop := goN P Q k ⟨n, t, h⟩
def goX (P : Program) (id : Nat) (k : List It) (Q : Exit → St → Prop) (n : Nat) (t : List (Nat × AV)) (h : List (Nat × Ob)) : Prop := goN.goX P Q id k ⟨n, t, h⟩
def goIf (P : Program) (c : Option AV) (x y : SCode) (k : List It) (Q : Exit → St → Prop) (n : Nat) (t : List (Nat × AV)) (h : List (Nat × Ob)) : Prop :=
  onG c (fun b => Split b (go P (.code x :: k) Q n t h) (go P (.code y :: k) Q n t h)) False
def goE (P : Program) (e : Option E) (op : SOp) (d : Option Nat) (nm n' : Nat) (l : List SOper) (k : List It) (Q : Exit → St → Prop) (n : Nat) (t : List (Nat × AV)) (h : List (Nat × Ob)) : Prop :=
  onW nm t h op e fun t h e => go P (.ops (nm + 8) n' l :: k) Q n (putA t d e.val) (e.upd ++ h)
def goCall (P : Program) (nm : Nat) (f : FuncId) (args : List AV) (d : Option Nat) (n' : Nat) (l : List SOper) (k : List It) (Q : Exit → St → Prop) (n : Nat) (t : List (Nat × AV)) (h : List (Nat × Ob)) : Prop :=
  wpCall P nm f args h fun r h' => go P (.ops (nm + 8) n' l :: k) Q n (putA t d r) h'
def goC (P : Program) (f : Option AV) (args : Option (List AV)) (d : Option Nat) (nm n' : Nat) (l : List SOper) (k : List It) (Q : Exit → St → Prop) (n : Nat) (t : List (Nat × AV)) (h : List (Nat × Ob)) : Prop :=
  onF f args fun g xs => goCall P nm g xs d n' l k Q n t h
def goNil (P : Program) (x : Option (Option Bool)) (neg : Bool) (d : Option Nat) (nm n' : Nat) (l : List SOper) (k : List It) (Q : Exit → St → Prop) (n : Nat) (t : List (Nat × AV)) (h : List (Nat × Ob)) : Prop :=
  onNil x fun b => go P (.ops (nm + 8) n' l :: k) Q n (putA t d (.v (.bool (if neg then !b else b)))) h
def goG (P : Program) (c : Option AV) (o : SOper) (w : Bool) (nm n' : Nat) (l : List SOper) (k : List It) (Q : Exit → St → Prop) (n : Nat) (t : List (Nat × AV)) (h : List (Nat × Ob)) : Prop :=
  onG c (fun b => Split b
      (bif w then go P (.ops nm n' ({ o with guard := none } :: l) :: k) Q n t h else go P (.ops (nm + 8) n' l :: k) Q n (putA t o.dst (.v undef)) h)
      (bif w then go P (.ops (nm + 8) n' l :: k) Q n (putA t o.dst (.v undef)) h else go P (.ops nm n' ({ o with guard := none } :: l) :: k) Q n t h))
    (go P (.ops (nm + 8) n' l :: k) Q n (putA t o.dst (.v undef)) h)
def goED (P : Program) (e : Option E) (rd : List Nat) (d : Option Nat) (nm n' : Nat) (l ops : List SOper) (acc : List Foot) (k : List It) (Q : Exit → St → Prop) (n : Nat) (t : List (Nat × AV)) (h : List (Nat × Ob)) : Prop :=
  onE e fun e => go P (.drw (nm + 8) n' l ops ((rd, e.upd.map Prod.fst) :: acc) :: k) Q n (putA t d e.val) (e.upd ++ h)
def goCallD (P : Program) (nm : Nat) (f : FuncId) (args : List AV) (d : Option Nat) (n' : Nat) (l ops : List SOper) (acc : List Foot) (k : List It) (Q : Exit → St → Prop) (n : Nat) (t : List (Nat × AV)) (h : List (Nat × Ob)) : Prop :=
  ∃ r, CallD P nm f args h r ∧ go P (.drw (nm + 8) n' l ops ((r.rd, r.upd.map Prod.fst) :: acc) :: k) Q n (putA t d r.val) (r.upd ++ h)
def goCD (P : Program) (f : Option AV) (args : Option (List AV)) (d : Option Nat) (nm n' : Nat) (l ops : List SOper) (acc : List Foot) (k : List It) (Q : Exit → St → Prop) (n : Nat) (t : List (Nat × AV)) (h : List (Nat × Ob)) : Prop :=
  onF f args fun g xs => goCallD P nm g xs d n' l ops acc k Q n t h
def goNilD (P : Program) (x : Option (Option Bool)) (neg : Bool) (d : Option Nat) (nm n' : Nat) (l ops : List SOper) (acc : List Foot) (k : List It) (Q : Exit → St → Prop) (n : Nat) (t : List (Nat × AV)) (h : List (Nat × Ob)) : Prop :=
  onNilD x fun b => go P (.drw (nm + 8) n' l ops (([], []) :: acc) :: k) Q n (putA t d (.v (.bool (if neg then !b else b)))) h
def goGD (P : Program) (c : Option AV) (o : SOper) (w : Bool) (nm n' : Nat) (l ops : List SOper) (acc : List Foot) (k : List It) (Q : Exit → St → Prop) (n : Nat) (t : List (Nat × AV)) (h : List (Nat × Ob)) : Prop :=
  onG c (fun b => Split b
      (bif w then go P (.drw nm n' ({ o with guard := none } :: l) ops acc :: k) Q n t h else go P (.drw (nm + 8) n' l ops (([], []) :: acc) :: k) Q n (putA t o.dst (.v undef)) h)
      (bif w then go P (.drw (nm + 8) n' l ops (([], []) :: acc) :: k) Q n (putA t o.dst (.v undef)) h else go P (.drw nm n' ({ o with guard := none } :: l) ops acc :: k) Q n t h))
    (go P (.drw (nm + 8) n' l ops (([], []) :: acc) :: k) Q n (putA t o.dst (.v undef)) h)
section eqs
variable {P : Program} {k : List It} {Q : Exit → St → Prop} {n : Nat} {t : List (Nat × AV)} {h : List (Nat × Ob)}
theorem go_nil : go P [] Q n t h = Q .normal ⟨n, t, h⟩ := (rfl)
theorem go_seq (a b : SCode) : go P (.code (.seq a b) :: k) Q n t h = go P (.code a :: .code b :: k) Q n t h := by
  simp only [go, goN, wpc]
  congr 1
  funext e s
  cases e <;> rfl
theorem go_skip : go P (.code .skip :: k) Q n t h = go P k Q n t h := (rfl)
theorem go_exit (id : Nat) : go P (.code (.exit id) :: k) Q n t h = goX P id k Q n t h := (rfl)
theorem go_ret : go P (.code .ret :: k) Q n t h = Q .ret ⟨n, t, h⟩ := (rfl)
theorem go_blk (id : Nat) : go P (.blk id :: k) Q n t h = go P k Q n t h := (rfl)
theorem go_lp (B : St → Prop) : go P (.lp B :: k) Q n t h = B ⟨n, t, h⟩ := (rfl)
theorem goX_blk (id i : Nat) : goX P id (.blk i :: k) Q n t h = if i = id then go P k Q n t h else goX P id k Q n t h := by
  simp only [goX, goN.goX, go]; split <;> rfl
theorem goX_ops (id nm n' : Nat) (l : List SOper) : goX P id (.ops nm n' l :: k) Q n t h = goX P id k Q n t h := (rfl)
theorem goX_code (id : Nat) (c : SCode) : goX P id (.code c :: k) Q n t h = goX P id k Q n t h := (rfl)
theorem goX_lp (id : Nat) (B : St → Prop) : goX P id (.lp B :: k) Q n t h = goX P id k Q n t h := (rfl)
theorem go_block (id : Nat) (c : SCode) : go P (.code (.block id c) :: k) Q n t h = go P (.code c :: .blk id :: k) Q n t h := by
  simp only [go, goN, wpc]
  congr 1
  funext e s
  cases e <;> try rfl
  rename_i i
  simp only [blockK, goN.goX]
  by_cases hi : i = id
  · simp [hi]
  · have : ¬ id = i := fun h => hi h.symm
    simp [hi, this]
theorem go_region (ops : List SOper) : go P (.code (.region ops false) :: k) Q n t h = go P (.ops n (n + 8 * ops.length) ops :: k) Q n t h := by
  simp [go, goN, wpc]
theorem go_cond (c : Operand) (x y : SCode) : go P (.code (.cond c x y) :: k) Q n t h = goIf P (ev t c) x y k Q n t h := (rfl)
theorem goIf_true (x y : SCode) : goIf P (some (.v (.bool true))) x y k Q n t h = go P (.code x :: k) Q n t h := by simp [goIf, onG_bool, Split_true]
theorem goIf_false (x y : SCode) : goIf P (some (.v (.bool false))) x y k Q n t h = go P (.code y :: k) Q n t h := by simp [goIf, onG_bool, Split_false]
theorem go_ops_nil (nm n' : Nat) : go P (.ops nm n' [] :: k) Q n t h = go P k Q n' t h := (rfl)
theorem go_mov (d : Option Nat) (x : Operand) (af : List Nat) (nm n' : Nat) (l : List SOper) : go P (.ops nm n' (⟨d, .mov x, none, af⟩ :: l) :: k) Q n t h = goE P (eff nm t h (.mov x)) (.mov x) d nm n' l k Q n t h := (rfl)
theorem go_pick (d : Option Nat) (c a b : Operand) (af : List Nat) (nm n' : Nat) (l : List SOper) : go P (.ops nm n' (⟨d, .pick c a b, none, af⟩ :: l) :: k) Q n t h = goE P (eff nm t h (.pick c a b)) (.pick c a b) d nm n' l k Q n t h := (rfl)
theorem go_alloc (d : Option Nat) (zs : List Value) (af : List Nat) (nm n' : Nat) (l : List SOper) : go P (.ops nm n' (⟨d, .alloc zs, none, af⟩ :: l) :: k) Q n t h = goE P (eff nm t h (.alloc zs)) (.alloc zs) d nm n' l k Q n t h := (rfl)
theorem go_box (d : Option Nat) (x : Operand) (af : List Nat) (nm n' : Nat) (l : List SOper) : go P (.ops nm n' (⟨d, .box x, none, af⟩ :: l) :: k) Q n t h = goE P (eff nm t h (.box x)) (.box x) d nm n' l k Q n t h := (rfl)
theorem go_build (d : Option Nat) (zs : List Value) (parts : List (Nat × Nat × Operand)) (af : List Nat) (nm n' : Nat) (l : List SOper) : go P (.ops nm n' (⟨d, .build zs parts, none, af⟩ :: l) :: k) Q n t h = goE P (eff nm t h (.build zs parts)) (.build zs parts) d nm n' l k Q n t h := (rfl)
theorem go_bslice (d : Option Nat) (e : TypeId) (sz : Nat) (zs : List Value) (len : Nat) (parts : List (Nat × Operand)) (af : List Nat) (nm n' : Nat) (l : List SOper) : go P (.ops nm n' (⟨d, .bslice e sz zs len parts, none, af⟩ :: l) :: k) Q n t h = goE P (eff nm t h (.bslice e sz zs len parts)) (.bslice e sz zs len parts) d nm n' l k Q n t h := (rfl)
theorem go_load (d : Option Nat) (ag : Bool) (sz : Nat) (x : Operand) (af : List Nat) (nm n' : Nat) (l : List SOper) : go P (.ops nm n' (⟨d, .load ag sz x, none, af⟩ :: l) :: k) Q n t h = goE P (eff nm t h (.load ag sz x)) (.load ag sz x) d nm n' l k Q n t h := (rfl)
theorem go_store (d : Option Nat) (sz : Nat) (x y : Operand) (af : List Nat) (nm n' : Nat) (l : List SOper) : go P (.ops nm n' (⟨d, .store sz x y, none, af⟩ :: l) :: k) Q n t h = goE P (eff nm t h (.store sz x y)) (.store sz x y) d nm n' l k Q n t h := (rfl)
theorem go_nilc (d : Option Nat) (x : Operand) (af : List Nat) (nm n' : Nat) (l : List SOper) : go P (.ops nm n' (⟨d, .nilc x, none, af⟩ :: l) :: k) Q n t h = goE P (eff nm t h (.nilc x)) (.nilc x) d nm n' l k Q n t h := (rfl)
theorem go_bin (d : Option Nat) (op : BinOp) (x y : Operand) (af : List Nat) (nm n' : Nat) (l : List SOper) : go P (.ops nm n' (⟨d, .bin op x y, none, af⟩ :: l) :: k) Q n t h = goE P (eff nm t h (.bin op x y)) (.bin op x y) d nm n' l k Q n t h := (rfl)
theorem go_eqs (d : Option Nat) (neg : Bool) (ks : List Nat) (x y : Operand) (af : List Nat) (nm n' : Nat) (l : List SOper) : go P (.ops nm n' (⟨d, .eqs neg ks x y, none, af⟩ :: l) :: k) Q n t h = goE P (eff nm t h (.eqs neg ks x y)) (.eqs neg ks x y) d nm n' l k Q n t h := (rfl)
theorem go_un (d : Option Nat) (op : UnOp) (x : Operand) (af : List Nat) (nm n' : Nat) (l : List SOper) : go P (.ops nm n' (⟨d, .un op x, none, af⟩ :: l) :: k) Q n t h = goE P (eff nm t h (.un op x)) (.un op x) d nm n' l k Q n t h := (rfl)
theorem go_conv (d : Option Nat) (q : IntKind) (x : Operand) (af : List Nat) (nm n' : Nat) (l : List SOper) : go P (.ops nm n' (⟨d, .conv q x, none, af⟩ :: l) :: k) Q n t h = goE P (eff nm t h (.conv q x)) (.conv q x) d nm n' l k Q n t h := (rfl)
theorem go_s2b (d : Option Nat) (e : TypeId) (x : Operand) (af : List Nat) (nm n' : Nat) (l : List SOper) : go P (.ops nm n' (⟨d, .s2b e x, none, af⟩ :: l) :: k) Q n t h = goE P (eff nm t h (.s2b e x)) (.s2b e x) d nm n' l k Q n t h := (rfl)
theorem go_b2s (d : Option Nat) (x : Operand) (af : List Nat) (nm n' : Nat) (l : List SOper) : go P (.ops nm n' (⟨d, .b2s x, none, af⟩ :: l) :: k) Q n t h = goE P (eff nm t h (.b2s x)) (.b2s x) d nm n' l k Q n t h := (rfl)
theorem go_mkfn (d : Option Nat) (f : FuncId) (caps : List Operand) (af : List Nat) (nm n' : Nat) (l : List SOper) : go P (.ops nm n' (⟨d, .mkfn f caps, none, af⟩ :: l) :: k) Q n t h = goE P (eff nm t h (.mkfn f caps)) (.mkfn f caps) d nm n' l k Q n t h := (rfl)
theorem go_mkmap (d : Option Nat)  (af : List Nat) (nm n' : Nat) (l : List SOper) : go P (.ops nm n' (⟨d, .mkmap, none, af⟩ :: l) :: k) Q n t h = goE P (eff nm t h (.mkmap)) (.mkmap) d nm n' l k Q n t h := (rfl)
theorem go_look (d : Option Nat) (z : Value) (m x : Operand) (af : List Nat) (nm n' : Nat) (l : List SOper) : go P (.ops nm n' (⟨d, .look z m x, none, af⟩ :: l) :: k) Q n t h = goE P (eff nm t h (.look z m x)) (.look z m x) d nm n' l k Q n t h := (rfl)
theorem go_mput (d : Option Nat) (m x y : Operand) (af : List Nat) (nm n' : Nat) (l : List SOper) : go P (.ops nm n' (⟨d, .mput m x y, none, af⟩ :: l) :: k) Q n t h = goE P (eff nm t h (.mput m x y)) (.mput m x y) d nm n' l k Q n t h := (rfl)
theorem go_mkslice (d : Option Nat) (e : TypeId) (sz bytes : Nat) (zs : List Value) (a c : Operand) (af : List Nat) (nm n' : Nat) (l : List SOper) : go P (.ops nm n' (⟨d, .mkslice e sz bytes zs a c, none, af⟩ :: l) :: k) Q n t h = goE P (eff nm t h (.mkslice e sz bytes zs a c)) (.mkslice e sz bytes zs a c) d nm n' l k Q n t h := (rfl)
theorem go_slice (d : Option Nat) (sz : Nat) (x : Operand) (lo hi mx : Option Operand) (af : List Nat) (nm n' : Nat) (l : List SOper) : go P (.ops nm n' (⟨d, .slice sz x lo hi mx, none, af⟩ :: l) :: k) Q n t h = goE P (eff nm t h (.slice sz x lo hi mx)) (.slice sz x lo hi mx) d nm n' l k Q n t h := (rfl)
theorem go_sslice (d : Option Nat) (x : Operand) (lo hi : Option Operand) (af : List Nat) (nm n' : Nat) (l : List SOper) : go P (.ops nm n' (⟨d, .sslice x lo hi, none, af⟩ :: l) :: k) Q n t h = goE P (eff nm t h (.sslice x lo hi)) (.sslice x lo hi) d nm n' l k Q n t h := (rfl)
theorem go_faddr (d : Option Nat) (off : Nat) (x : Operand) (af : List Nat) (nm n' : Nat) (l : List SOper) : go P (.ops nm n' (⟨d, .faddr off x, none, af⟩ :: l) :: k) Q n t h = goE P (eff nm t h (.faddr off x)) (.faddr off x) d nm n' l k Q n t h := (rfl)
theorem go_fld (d : Option Nat) (ag : Bool) (off sz : Nat) (x : Operand) (af : List Nat) (nm n' : Nat) (l : List SOper) : go P (.ops nm n' (⟨d, .fld ag off sz x, none, af⟩ :: l) :: k) Q n t h = goE P (eff nm t h (.fld ag off sz x)) (.fld ag off sz x) d nm n' l k Q n t h := (rfl)
theorem go_iaddr (d : Option Nat) (sz : Nat) (x i : Operand) (af : List Nat) (nm n' : Nat) (l : List SOper) : go P (.ops nm n' (⟨d, .iaddr sz x i, none, af⟩ :: l) :: k) Q n t h = goE P (eff nm t h (.iaddr sz x i)) (.iaddr sz x i) d nm n' l k Q n t h := (rfl)
theorem go_iaddrA (d : Option Nat) (len sz : Nat) (x i : Operand) (af : List Nat) (nm n' : Nat) (l : List SOper) : go P (.ops nm n' (⟨d, .iaddrA len sz x i, none, af⟩ :: l) :: k) Q n t h = goE P (eff nm t h (.iaddrA len sz x i)) (.iaddrA len sz x i) d nm n' l k Q n t h := (rfl)
theorem go_idx (d : Option Nat) (ag : Bool) (len sz : Nat) (x i : Operand) (af : List Nat) (nm n' : Nat) (l : List SOper) : go P (.ops nm n' (⟨d, .idx ag len sz x i, none, af⟩ :: l) :: k) Q n t h = goE P (eff nm t h (.idx ag len sz x i)) (.idx ag len sz x i) d nm n' l k Q n t h := (rfl)
theorem go_idxs (d : Option Nat) (x i : Operand) (af : List Nat) (nm n' : Nat) (l : List SOper) : go P (.ops nm n' (⟨d, .idxs x i, none, af⟩ :: l) :: k) Q n t h = goE P (eff nm t h (.idxs x i)) (.idxs x i) d nm n' l k Q n t h := (rfl)
theorem go_len (d : Option Nat) (x : Operand) (af : List Nat) (nm n' : Nat) (l : List SOper) : go P (.ops nm n' (⟨d, .len x, none, af⟩ :: l) :: k) Q n t h = goE P (eff nm t h (.len x)) (.len x) d nm n' l k Q n t h := (rfl)
theorem go_cap (d : Option Nat) (x : Operand) (af : List Nat) (nm n' : Nat) (l : List SOper) : go P (.ops nm n' (⟨d, .cap x, none, af⟩ :: l) :: k) Q n t h = goE P (eff nm t h (.cap x)) (.cap x) d nm n' l k Q n t h := (rfl)
theorem go_app (d : Option Nat) (e : TypeId) (sz bytes : Nat) (zs : List Value) (x y : Operand) (af : List Nat) (nm n' : Nat) (l : List SOper) : go P (.ops nm n' (⟨d, .app e sz bytes zs x y, none, af⟩ :: l) :: k) Q n t h = goE P (eff nm t h (.app e sz bytes zs x y)) (.app e sz bytes zs x y) d nm n' l k Q n t h := (rfl)
theorem go_clr (d : Option Nat) (sz : Nat) (zs : List Value) (x : Operand) (af : List Nat) (nm n' : Nat) (l : List SOper) : go P (.ops nm n' (⟨d, .clr sz zs x, none, af⟩ :: l) :: k) Q n t h = goE P (eff nm t h (.clr sz zs x)) (.clr sz zs x) d nm n' l k Q n t h := (rfl)
theorem go_copy (d : Option Nat) (sz : Nat) (x y : Operand) (af : List Nat) (nm n' : Nat) (l : List SOper) : go P (.ops nm n' (⟨d, .copy sz x y, none, af⟩ :: l) :: k) Q n t h = goE P (eff nm t h (.copy sz x y)) (.copy sz x y) d nm n' l k Q n t h := (rfl)
theorem go_ext (d : Option Nat) (i : Nat) (x : Operand) (af : List Nat) (nm n' : Nat) (l : List SOper) : go P (.ops nm n' (⟨d, .ext i x, none, af⟩ :: l) :: k) Q n t h = goE P (eff nm t h (.ext i x)) (.ext i x) d nm n' l k Q n t h := (rfl)
theorem go_minmax (d : Option Nat) (mx : Bool) (xs : List Operand) (af : List Nat) (nm n' : Nat) (l : List SOper) : go P (.ops nm n' (⟨d, .minmax mx xs, none, af⟩ :: l) :: k) Q n t h = goE P (eff nm t h (.minmax mx xs)) (.minmax mx xs) d nm n' l k Q n t h := (rfl)
theorem go_isnil (d : Option Nat) (neg : Bool) (x : Operand) (af : List Nat) (nm n' : Nat) (l : List SOper) : go P (.ops nm n' (⟨d, .isnil neg x, none, af⟩ :: l) :: k) Q n t h = goNil P (nilK (ev t x)) neg d nm n' l k Q n t h := (rfl)
theorem goNil_some (b neg : Bool) (d : Option Nat) (nm n' : Nat) (l : List SOper) : goNil P (some (some b)) neg d nm n' l k Q n t h = go P (.ops (nm + 8) n' l :: k) Q n (putA t d (.v (.bool (if neg then !b else b)))) h := (rfl)
theorem goNil_any (neg : Bool) (d : Option Nat) (nm n' : Nat) (l : List SOper) : goNil P (some none) neg d nm n' l k Q n t h =
    (go P (.ops (nm + 8) n' l :: k) Q n (putA t d (.v (.bool (if neg then !true else true)))) h ∧ go P (.ops (nm + 8) n' l :: k) Q n (putA t d (.v (.bool (if neg then !false else false)))) h) := (rfl)
theorem go_appz (d : Option Nat) (e : TypeId) (sz bytes : Nat) (zs : List Value) (x y : Operand) (af : List Nat) (nm n' : Nat) (l : List SOper) : go P (.ops nm n' (⟨d, .appz e sz bytes zs x y, none, af⟩ :: l) :: k) Q n t h = goE P (eff nm t h (.appz e sz bytes zs x y)) (.appz e sz bytes zs x y) d nm n' l k Q n t h := (rfl)
theorem go_eqb (d : Option Nat) (neg : Bool) (x y : Operand) (af : List Nat) (nm n' : Nat) (l : List SOper) : go P (.ops nm n' (⟨d, .eqb neg x y, none, af⟩ :: l) :: k) Q n t h = goE P (eff nm t h (.eqb neg x y)) (.eqb neg x y) d nm n' l k Q n t h := (rfl)
theorem go_slen (d : Option Nat) (x : Operand) (af : List Nat) (nm n' : Nat) (l : List SOper) : go P (.ops nm n' (⟨d, .slen x, none, af⟩ :: l) :: k) Q n t h = goE P (eff nm t h (.slen x)) (.slen x) d nm n' l k Q n t h := (rfl)
theorem go_call (d : Option Nat) (f : Operand) (args : List Operand) (af : List Nat) (nm n' : Nat) (l : List SOper) :
    go P (.ops nm n' (⟨d, .call f args, none, af⟩ :: l) :: k) Q n t h = goC P (ev t f) (evL t args) d nm n' l k Q n t h := (rfl)
theorem go_guard (d : Option Nat) (op : SOp) (g : Nat) (w : Bool) (af : List Nat) (nm n' : Nat) (l : List SOper) :
    go P (.ops nm n' (⟨d, op, some (g, w), af⟩ :: l) :: k) Q n t h = goG P (get t g) ⟨d, op, none, af⟩ w nm n' l k Q n t h := by
  cases w <;> rfl
theorem goE_some (e : E) (op : SOp) (d : Option Nat) (nm n' : Nat) (l : List SOper) :
    goE P (some e) op d nm n' l k Q n t h = (e.pre ∧ go P (.ops (nm + 8) n' l :: k) Q n (putA t d e.val) (e.upd ++ h)) := (rfl)
theorem goC_fn (g : FuncId) (caps xs : List AV) (d : Option Nat) (nm n' : Nat) (l : List SOper) :
    goC P (some (.fn g caps)) (some xs) d nm n' l k Q n t h = if g < 1000000 then goCall P nm g (xs ++ caps) d n' l k Q n t h else if g < 2000000 then goCall P nm (g - 1000000) (caps ++ xs) d n' l k Q n t h else False := (rfl)
theorem goG_undef (o : SOper) (w : Bool) (nm n' : Nat) (l : List SOper) :
    goG P (some (.v undef)) o w nm n' l k Q n t h = go P (.ops (nm + 8) n' l :: k) Q n (putA t o.dst (.v undef)) h := (rfl)
theorem goG_tt (o : SOper) (nm n' : Nat) (l : List SOper) :
    goG P (some (.v (.bool true))) o true nm n' l k Q n t h = go P (.ops nm n' ({ o with guard := none } :: l) :: k) Q n t h := by simp [goG, onG_bool, Split_true]
theorem goG_tf (o : SOper) (nm n' : Nat) (l : List SOper) :
    goG P (some (.v (.bool true))) o false nm n' l k Q n t h = go P (.ops (nm + 8) n' l :: k) Q n (putA t o.dst (.v undef)) h := by simp [goG, onG_bool, Split_true]
theorem goG_ft (o : SOper) (nm n' : Nat) (l : List SOper) :
    goG P (some (.v (.bool false))) o true nm n' l k Q n t h = go P (.ops (nm + 8) n' l :: k) Q n (putA t o.dst (.v undef)) h := by simp [goG, onG_bool, Split_false]
theorem goG_ff (o : SOper) (nm n' : Nat) (l : List SOper) :
    goG P (some (.v (.bool false))) o false nm n' l k Q n t h = go P (.ops nm n' ({ o with guard := none } :: l) :: k) Q n t h := by simp [goG, onG_bool, Split_false]
theorem goD_mov (d : Option Nat) (x : Operand) (af : List Nat) (nm n' : Nat) (l ops : List SOper) (acc : List Foot) : go P (.drw nm n' (⟨d, .mov x, none, af⟩ :: l) ops acc :: k) Q n t h = goED P (eff nm t h (.mov x)) (rdOf t (.mov x)) d nm n' l ops acc k Q n t h := (rfl)
theorem goD_pick (d : Option Nat) (c a b : Operand) (af : List Nat) (nm n' : Nat) (l ops : List SOper) (acc : List Foot) : go P (.drw nm n' (⟨d, .pick c a b, none, af⟩ :: l) ops acc :: k) Q n t h = goED P (eff nm t h (.pick c a b)) (rdOf t (.pick c a b)) d nm n' l ops acc k Q n t h := (rfl)
theorem goD_alloc (d : Option Nat) (zs : List Value) (af : List Nat) (nm n' : Nat) (l ops : List SOper) (acc : List Foot) : go P (.drw nm n' (⟨d, .alloc zs, none, af⟩ :: l) ops acc :: k) Q n t h = goED P (eff nm t h (.alloc zs)) (rdOf t (.alloc zs)) d nm n' l ops acc k Q n t h := (rfl)
theorem goD_box (d : Option Nat) (x : Operand) (af : List Nat) (nm n' : Nat) (l ops : List SOper) (acc : List Foot) : go P (.drw nm n' (⟨d, .box x, none, af⟩ :: l) ops acc :: k) Q n t h = goED P (eff nm t h (.box x)) (rdOf t (.box x)) d nm n' l ops acc k Q n t h := (rfl)
theorem goD_build (d : Option Nat) (zs : List Value) (parts : List (Nat × Nat × Operand)) (af : List Nat) (nm n' : Nat) (l ops : List SOper) (acc : List Foot) : go P (.drw nm n' (⟨d, .build zs parts, none, af⟩ :: l) ops acc :: k) Q n t h = goED P (eff nm t h (.build zs parts)) (rdOf t (.build zs parts)) d nm n' l ops acc k Q n t h := (rfl)
theorem goD_bslice (d : Option Nat) (e : TypeId) (sz : Nat) (zs : List Value) (len : Nat) (parts : List (Nat × Operand)) (af : List Nat) (nm n' : Nat) (l ops : List SOper) (acc : List Foot) : go P (.drw nm n' (⟨d, .bslice e sz zs len parts, none, af⟩ :: l) ops acc :: k) Q n t h = goED P (eff nm t h (.bslice e sz zs len parts)) (rdOf t (.bslice e sz zs len parts)) d nm n' l ops acc k Q n t h := (rfl)
theorem goD_load (d : Option Nat) (ag : Bool) (sz : Nat) (x : Operand) (af : List Nat) (nm n' : Nat) (l ops : List SOper) (acc : List Foot) : go P (.drw nm n' (⟨d, .load ag sz x, none, af⟩ :: l) ops acc :: k) Q n t h = goED P (eff nm t h (.load ag sz x)) (rdOf t (.load ag sz x)) d nm n' l ops acc k Q n t h := (rfl)
theorem goD_store (d : Option Nat) (sz : Nat) (x y : Operand) (af : List Nat) (nm n' : Nat) (l ops : List SOper) (acc : List Foot) : go P (.drw nm n' (⟨d, .store sz x y, none, af⟩ :: l) ops acc :: k) Q n t h = goED P (eff nm t h (.store sz x y)) (rdOf t (.store sz x y)) d nm n' l ops acc k Q n t h := (rfl)
theorem goD_nilc (d : Option Nat) (x : Operand) (af : List Nat) (nm n' : Nat) (l ops : List SOper) (acc : List Foot) : go P (.drw nm n' (⟨d, .nilc x, none, af⟩ :: l) ops acc :: k) Q n t h = goED P (eff nm t h (.nilc x)) (rdOf t (.nilc x)) d nm n' l ops acc k Q n t h := (rfl)
theorem goD_bin (d : Option Nat) (op : BinOp) (x y : Operand) (af : List Nat) (nm n' : Nat) (l ops : List SOper) (acc : List Foot) : go P (.drw nm n' (⟨d, .bin op x y, none, af⟩ :: l) ops acc :: k) Q n t h = goED P (eff nm t h (.bin op x y)) (rdOf t (.bin op x y)) d nm n' l ops acc k Q n t h := (rfl)
theorem goD_eqs (d : Option Nat) (neg : Bool) (ks : List Nat) (x y : Operand) (af : List Nat) (nm n' : Nat) (l ops : List SOper) (acc : List Foot) : go P (.drw nm n' (⟨d, .eqs neg ks x y, none, af⟩ :: l) ops acc :: k) Q n t h = goED P (eff nm t h (.eqs neg ks x y)) (rdOf t (.eqs neg ks x y)) d nm n' l ops acc k Q n t h := (rfl)
theorem goD_un (d : Option Nat) (op : UnOp) (x : Operand) (af : List Nat) (nm n' : Nat) (l ops : List SOper) (acc : List Foot) : go P (.drw nm n' (⟨d, .un op x, none, af⟩ :: l) ops acc :: k) Q n t h = goED P (eff nm t h (.un op x)) (rdOf t (.un op x)) d nm n' l ops acc k Q n t h := (rfl)
theorem goD_conv (d : Option Nat) (q : IntKind) (x : Operand) (af : List Nat) (nm n' : Nat) (l ops : List SOper) (acc : List Foot) : go P (.drw nm n' (⟨d, .conv q x, none, af⟩ :: l) ops acc :: k) Q n t h = goED P (eff nm t h (.conv q x)) (rdOf t (.conv q x)) d nm n' l ops acc k Q n t h := (rfl)
theorem goD_s2b (d : Option Nat) (e : TypeId) (x : Operand) (af : List Nat) (nm n' : Nat) (l ops : List SOper) (acc : List Foot) : go P (.drw nm n' (⟨d, .s2b e x, none, af⟩ :: l) ops acc :: k) Q n t h = goED P (eff nm t h (.s2b e x)) (rdOf t (.s2b e x)) d nm n' l ops acc k Q n t h := (rfl)
theorem goD_b2s (d : Option Nat) (x : Operand) (af : List Nat) (nm n' : Nat) (l ops : List SOper) (acc : List Foot) : go P (.drw nm n' (⟨d, .b2s x, none, af⟩ :: l) ops acc :: k) Q n t h = goED P (eff nm t h (.b2s x)) (rdOf t (.b2s x)) d nm n' l ops acc k Q n t h := (rfl)
theorem goD_mkfn (d : Option Nat) (f : FuncId) (caps : List Operand) (af : List Nat) (nm n' : Nat) (l ops : List SOper) (acc : List Foot) : go P (.drw nm n' (⟨d, .mkfn f caps, none, af⟩ :: l) ops acc :: k) Q n t h = goED P (eff nm t h (.mkfn f caps)) (rdOf t (.mkfn f caps)) d nm n' l ops acc k Q n t h := (rfl)
theorem goD_mkmap (d : Option Nat)  (af : List Nat) (nm n' : Nat) (l ops : List SOper) (acc : List Foot) : go P (.drw nm n' (⟨d, .mkmap, none, af⟩ :: l) ops acc :: k) Q n t h = goED P (eff nm t h (.mkmap)) (rdOf t (.mkmap)) d nm n' l ops acc k Q n t h := (rfl)
theorem goD_look (d : Option Nat) (z : Value) (m x : Operand) (af : List Nat) (nm n' : Nat) (l ops : List SOper) (acc : List Foot) : go P (.drw nm n' (⟨d, .look z m x, none, af⟩ :: l) ops acc :: k) Q n t h = goED P (eff nm t h (.look z m x)) (rdOf t (.look z m x)) d nm n' l ops acc k Q n t h := (rfl)
theorem goD_mput (d : Option Nat) (m x y : Operand) (af : List Nat) (nm n' : Nat) (l ops : List SOper) (acc : List Foot) : go P (.drw nm n' (⟨d, .mput m x y, none, af⟩ :: l) ops acc :: k) Q n t h = goED P (eff nm t h (.mput m x y)) (rdOf t (.mput m x y)) d nm n' l ops acc k Q n t h := (rfl)
theorem goD_mkslice (d : Option Nat) (e : TypeId) (sz bytes : Nat) (zs : List Value) (a c : Operand) (af : List Nat) (nm n' : Nat) (l ops : List SOper) (acc : List Foot) : go P (.drw nm n' (⟨d, .mkslice e sz bytes zs a c, none, af⟩ :: l) ops acc :: k) Q n t h = goED P (eff nm t h (.mkslice e sz bytes zs a c)) (rdOf t (.mkslice e sz bytes zs a c)) d nm n' l ops acc k Q n t h := (rfl)
theorem goD_slice (d : Option Nat) (sz : Nat) (x : Operand) (lo hi mx : Option Operand) (af : List Nat) (nm n' : Nat) (l ops : List SOper) (acc : List Foot) : go P (.drw nm n' (⟨d, .slice sz x lo hi mx, none, af⟩ :: l) ops acc :: k) Q n t h = goED P (eff nm t h (.slice sz x lo hi mx)) (rdOf t (.slice sz x lo hi mx)) d nm n' l ops acc k Q n t h := (rfl)
theorem goD_sslice (d : Option Nat) (x : Operand) (lo hi : Option Operand) (af : List Nat) (nm n' : Nat) (l ops : List SOper) (acc : List Foot) : go P (.drw nm n' (⟨d, .sslice x lo hi, none, af⟩ :: l) ops acc :: k) Q n t h = goED P (eff nm t h (.sslice x lo hi)) (rdOf t (.sslice x lo hi)) d nm n' l ops acc k Q n t h := (rfl)
theorem goD_faddr (d : Option Nat) (off : Nat) (x : Operand) (af : List Nat) (nm n' : Nat) (l ops : List SOper) (acc : List Foot) : go P (.drw nm n' (⟨d, .faddr off x, none, af⟩ :: l) ops acc :: k) Q n t h = goED P (eff nm t h (.faddr off x)) (rdOf t (.faddr off x)) d nm n' l ops acc k Q n t h := (rfl)
theorem goD_fld (d : Option Nat) (ag : Bool) (off sz : Nat) (x : Operand) (af : List Nat) (nm n' : Nat) (l ops : List SOper) (acc : List Foot) : go P (.drw nm n' (⟨d, .fld ag off sz x, none, af⟩ :: l) ops acc :: k) Q n t h = goED P (eff nm t h (.fld ag off sz x)) (rdOf t (.fld ag off sz x)) d nm n' l ops acc k Q n t h := (rfl)
theorem goD_iaddr (d : Option Nat) (sz : Nat) (x i : Operand) (af : List Nat) (nm n' : Nat) (l ops : List SOper) (acc : List Foot) : go P (.drw nm n' (⟨d, .iaddr sz x i, none, af⟩ :: l) ops acc :: k) Q n t h = goED P (eff nm t h (.iaddr sz x i)) (rdOf t (.iaddr sz x i)) d nm n' l ops acc k Q n t h := (rfl)
theorem goD_iaddrA (d : Option Nat) (len sz : Nat) (x i : Operand) (af : List Nat) (nm n' : Nat) (l ops : List SOper) (acc : List Foot) : go P (.drw nm n' (⟨d, .iaddrA len sz x i, none, af⟩ :: l) ops acc :: k) Q n t h = goED P (eff nm t h (.iaddrA len sz x i)) (rdOf t (.iaddrA len sz x i)) d nm n' l ops acc k Q n t h := (rfl)
theorem goD_idx (d : Option Nat) (ag : Bool) (len sz : Nat) (x i : Operand) (af : List Nat) (nm n' : Nat) (l ops : List SOper) (acc : List Foot) : go P (.drw nm n' (⟨d, .idx ag len sz x i, none, af⟩ :: l) ops acc :: k) Q n t h = goED P (eff nm t h (.idx ag len sz x i)) (rdOf t (.idx ag len sz x i)) d nm n' l ops acc k Q n t h := (rfl)
theorem goD_idxs (d : Option Nat) (x i : Operand) (af : List Nat) (nm n' : Nat) (l ops : List SOper) (acc : List Foot) : go P (.drw nm n' (⟨d, .idxs x i, none, af⟩ :: l) ops acc :: k) Q n t h = goED P (eff nm t h (.idxs x i)) (rdOf t (.idxs x i)) d nm n' l ops acc k Q n t h := (rfl)
theorem goD_len (d : Option Nat) (x : Operand) (af : List Nat) (nm n' : Nat) (l ops : List SOper) (acc : List Foot) : go P (.drw nm n' (⟨d, .len x, none, af⟩ :: l) ops acc :: k) Q n t h = goED P (eff nm t h (.len x)) (rdOf t (.len x)) d nm n' l ops acc k Q n t h := (rfl)
theorem goD_cap (d : Option Nat) (x : Operand) (af : List Nat) (nm n' : Nat) (l ops : List SOper) (acc : List Foot) : go P (.drw nm n' (⟨d, .cap x, none, af⟩ :: l) ops acc :: k) Q n t h = goED P (eff nm t h (.cap x)) (rdOf t (.cap x)) d nm n' l ops acc k Q n t h := (rfl)
theorem goD_app (d : Option Nat) (e : TypeId) (sz bytes : Nat) (zs : List Value) (x y : Operand) (af : List Nat) (nm n' : Nat) (l ops : List SOper) (acc : List Foot) : go P (.drw nm n' (⟨d, .app e sz bytes zs x y, none, af⟩ :: l) ops acc :: k) Q n t h = goED P (eff nm t h (.app e sz bytes zs x y)) (rdOf t (.app e sz bytes zs x y)) d nm n' l ops acc k Q n t h := (rfl)
theorem goD_clr (d : Option Nat) (sz : Nat) (zs : List Value) (x : Operand) (af : List Nat) (nm n' : Nat) (l ops : List SOper) (acc : List Foot) : go P (.drw nm n' (⟨d, .clr sz zs x, none, af⟩ :: l) ops acc :: k) Q n t h = goED P (eff nm t h (.clr sz zs x)) (rdOf t (.clr sz zs x)) d nm n' l ops acc k Q n t h := (rfl)
theorem goD_copy (d : Option Nat) (sz : Nat) (x y : Operand) (af : List Nat) (nm n' : Nat) (l ops : List SOper) (acc : List Foot) : go P (.drw nm n' (⟨d, .copy sz x y, none, af⟩ :: l) ops acc :: k) Q n t h = goED P (eff nm t h (.copy sz x y)) (rdOf t (.copy sz x y)) d nm n' l ops acc k Q n t h := (rfl)
theorem goD_ext (d : Option Nat) (i : Nat) (x : Operand) (af : List Nat) (nm n' : Nat) (l ops : List SOper) (acc : List Foot) : go P (.drw nm n' (⟨d, .ext i x, none, af⟩ :: l) ops acc :: k) Q n t h = goED P (eff nm t h (.ext i x)) (rdOf t (.ext i x)) d nm n' l ops acc k Q n t h := (rfl)
theorem goD_minmax (d : Option Nat) (mx : Bool) (xs : List Operand) (af : List Nat) (nm n' : Nat) (l ops : List SOper) (acc : List Foot) : go P (.drw nm n' (⟨d, .minmax mx xs, none, af⟩ :: l) ops acc :: k) Q n t h = goED P (eff nm t h (.minmax mx xs)) (rdOf t (.minmax mx xs)) d nm n' l ops acc k Q n t h := (rfl)
theorem goD_appz (d : Option Nat) (e : TypeId) (sz bytes : Nat) (zs : List Value) (x y : Operand) (af : List Nat) (nm n' : Nat) (l ops : List SOper) (acc : List Foot) : go P (.drw nm n' (⟨d, .appz e sz bytes zs x y, none, af⟩ :: l) ops acc :: k) Q n t h = goED P (eff nm t h (.appz e sz bytes zs x y)) (rdOf t (.appz e sz bytes zs x y)) d nm n' l ops acc k Q n t h := (rfl)
theorem goD_eqb (d : Option Nat) (neg : Bool) (x y : Operand) (af : List Nat) (nm n' : Nat) (l ops : List SOper) (acc : List Foot) : go P (.drw nm n' (⟨d, .eqb neg x y, none, af⟩ :: l) ops acc :: k) Q n t h = goED P (eff nm t h (.eqb neg x y)) (rdOf t (.eqb neg x y)) d nm n' l ops acc k Q n t h := (rfl)
theorem goD_slen (d : Option Nat) (x : Operand) (af : List Nat) (nm n' : Nat) (l ops : List SOper) (acc : List Foot) : go P (.drw nm n' (⟨d, .slen x, none, af⟩ :: l) ops acc :: k) Q n t h = goED P (eff nm t h (.slen x)) (rdOf t (.slen x)) d nm n' l ops acc k Q n t h := (rfl)
theorem goX_drw (id nm n' : Nat) (l ops : List SOper) (acc : List Foot) : goX P id (.drw nm n' l ops acc :: k) Q n t h = goX P id k Q n t h := (rfl)
theorem go_region_draw (ops : List SOper) : go P (.code (.region ops true) :: k) Q n t h = go P (.drw n (n + 8 * ops.length) ops ops [] :: k) Q n t h := by
  simp [go, goN, wpc, wpDraw]
theorem go_drw_nil (nm n' : Nat) (ops : List SOper) (acc : List Foot) : go P (.drw nm n' [] ops acc :: k) Q n t h = (okDraw ops acc.reverse = true ∧ go P k Q n' t h) := (rfl)
theorem goED_some (e : E) (rd : List Nat) (d : Option Nat) (nm n' : Nat) (l ops : List SOper) (acc : List Foot) :
    goED P (some e) rd d nm n' l ops acc k Q n t h = (e.pre ∧ go P (.drw (nm + 8) n' l ops ((rd, e.upd.map Prod.fst) :: acc) :: k) Q n (putA t d e.val) (e.upd ++ h)) := (rfl)
theorem goD_call (d : Option Nat) (f : Operand) (args : List Operand) (af : List Nat) (nm n' : Nat) (l ops : List SOper) (acc : List Foot) :
    go P (.drw nm n' (⟨d, .call f args, none, af⟩ :: l) ops acc :: k) Q n t h = goCD P (ev t f) (evL t args) d nm n' l ops acc k Q n t h := (rfl)
theorem goCD_fn (g : FuncId) (caps xs : List AV) (d : Option Nat) (nm n' : Nat) (l ops : List SOper) (acc : List Foot) :
    goCD P (some (.fn g caps)) (some xs) d nm n' l ops acc k Q n t h = if g < 1000000 then goCallD P nm g (xs ++ caps) d n' l ops acc k Q n t h else if g < 2000000 then goCallD P nm (g - 1000000) (caps ++ xs) d n' l ops acc k Q n t h else False := (rfl)
theorem goD_isnil (d : Option Nat) (neg : Bool) (x : Operand) (af : List Nat) (nm n' : Nat) (l ops : List SOper) (acc : List Foot) :
    go P (.drw nm n' (⟨d, .isnil neg x, none, af⟩ :: l) ops acc :: k) Q n t h = goNilD P (nilK (ev t x)) neg d nm n' l ops acc k Q n t h := (rfl)
theorem goNilD_some (b neg : Bool) (d : Option Nat) (nm n' : Nat) (l ops : List SOper) (acc : List Foot) : goNilD P (some (some b)) neg d nm n' l ops acc k Q n t h =
    go P (.drw (nm + 8) n' l ops (([], []) :: acc) :: k) Q n (putA t d (.v (.bool (if neg then !b else b)))) h := (rfl)
theorem goD_guard (d : Option Nat) (op : SOp) (g : Nat) (w : Bool) (af : List Nat) (nm n' : Nat) (l ops : List SOper) (acc : List Foot) :
    go P (.drw nm n' (⟨d, op, some (g, w), af⟩ :: l) ops acc :: k) Q n t h = goGD P (get t g) ⟨d, op, none, af⟩ w nm n' l ops acc k Q n t h := by
  cases w <;> rfl
theorem goGD_undef (o : SOper) (w : Bool) (nm n' : Nat) (l ops : List SOper) (acc : List Foot) :
    goGD P (some (.v undef)) o w nm n' l ops acc k Q n t h = go P (.drw (nm + 8) n' l ops (([], []) :: acc) :: k) Q n (putA t o.dst (.v undef)) h := (rfl)
theorem goGD_tt (o : SOper) (nm n' : Nat) (l ops : List SOper) (acc : List Foot) :
    goGD P (some (.v (.bool true))) o true nm n' l ops acc k Q n t h = go P (.drw nm n' ({ o with guard := none } :: l) ops acc :: k) Q n t h := by simp [goGD, onG_bool, Split_true]
theorem goGD_tf (o : SOper) (nm n' : Nat) (l ops : List SOper) (acc : List Foot) :
    goGD P (some (.v (.bool true))) o false nm n' l ops acc k Q n t h = go P (.drw (nm + 8) n' l ops (([], []) :: acc) :: k) Q n (putA t o.dst (.v undef)) h := by simp [goGD, onG_bool, Split_true]
theorem goGD_ft (o : SOper) (nm n' : Nat) (l ops : List SOper) (acc : List Foot) :
    goGD P (some (.v (.bool false))) o true nm n' l ops acc k Q n t h = go P (.drw (nm + 8) n' l ops (([], []) :: acc) :: k) Q n (putA t o.dst (.v undef)) h := by simp [goGD, onG_bool, Split_false]
theorem goGD_ff (o : SOper) (nm n' : Nat) (l ops : List SOper) (acc : List Foot) :
    goGD P (some (.v (.bool false))) o false nm n' l ops acc k Q n t h = go P (.drw nm n' ({ o with guard := none } :: l) ops acc :: k) Q n t h := by simp [goGD, onG_bool, Split_false]
end eqs
end Go.Eng

namespace Go.Eng
open Go
def okDst (nt : Nat) : List SOper → Bool
  | [] => true
  | o :: l => (match o.dst with
    | some d => decide (d < nt)
    | none => true) && okDst nt l
def okCode (nt : Nat) : SCode → Bool
  | .region ops _ => okDst nt ops
  | .seq a b => okCode nt a && okCode nt b
  | .cond _ x y => okCode nt x && okCode nt y
  | .block _ c => okCode nt c
  | .loop c => okCode nt c
  | _ => true
section
variable {P : Program} {C : Ctx} {ρ : Nat → Loc} {U : Nat → Prop} {h : List (Nat × Ob)} {w : World} {nm : Nat} {t : List (Nat × AV)} {a : Act} {o : Oper}
theorem Tm.put (ht : Tm C ρ U w t a) {dst : Option Nat} {x : AV} {v : Value} (hv : VR w (okc C ρ w) ρ U x v) (hd : ∀ d, dst = some d → d < a.tmps.size) : Tm C ρ U w (putA t dst x) (a.put dst v) := by
  intro k y hk
  cases dst with
  | none => exact ht k y hk
  | some d =>
    have hlt := hd d rfl
    simp only [putA, get] at hk
    by_cases e : d = k
    · subst e
      rw [if_pos rfl] at hk
      cases hk
      exact ⟨v, by simp [Act.put, hlt], hv⟩
    · rw [if_neg e] at hk
      obtain ⟨u, h1, h2⟩ := ht k y hk
      exact ⟨u, by simp only [Act.put, Array.getElem?_setIfInBounds]; rw [if_neg e]; exact h1, h2⟩
theorem put_size (a : Act) (dst : Option Nat) (v : Value) : (a.put dst v).tmps.size = a.tmps.size := by
  cases dst <;> simp [Act.put]
theorem put_defers (a : Act) (dst : Option Nat) (v : Value) : (a.put dst v).defers = a.defers := by
  cases dst <;> simp [Act.put]
structure Sim (C : Ctx) (ρ : Nat → Loc) (U : Nat → Prop) (t : List (Nat × AV)) (h : List (Nat × Ob)) (a : Act) (w : World) : Prop where
  hr : HR C ρ U h w
  tm : Tm C ρ U w t a
  defers : a.defers = []
  sz : a.tmps.size = C.nt
theorem execCall {c : Call} {f : Operand} {g : FuncId} {vs : Array Value} (hc : c.callee = .value f) (hf : a.eval f = .func (.func g) #[] vs) (ho : o.op = .call c) (hE : Enters P g) :
    (execOp a.eval o).run P w = .ok (.enter g (c.args.map a.eval ++ vs)) w := by
  obtain ⟨fn, h1, h2, h3⟩ := hE
  simp only [execOp, ho, resolve, hc, Deferred.ofValue, hf, Sem.run_bind, Sem.run_pure, Result.andThen_ok, invoke, callFunc, run_program, h1, h2, h3, Bool.false_eq_true, if_false, Array.empty_append]
theorem execCallM {c : Call} {f : Operand} {g : FuncId} {vs : Array Value} (hc : c.callee = .value f) (hf : a.eval f = .func (.func g) vs #[]) (ho : o.op = .call c) (hE : Enters P g) :
    (execOp a.eval o).run P w = .ok (.enter g (vs ++ c.args.map a.eval)) w := by
  obtain ⟨fn, h1, h2, h3⟩ := hE
  simp only [execOp, ho, resolve, hc, Deferred.ofValue, hf, Sem.run_bind, Sem.run_pure, Result.andThen_ok, invoke, callFunc, run_program, h1, h2, h3, Bool.false_eq_true, if_false, Array.append_empty]
theorem VL.append {ok : Nat → Prop} {cs ds : List AV} {us vs : Array Value} (h1 : VL w ok ρ U cs us) (h2 : VL w ok ρ U ds vs) : VL w ok ρ U (cs ++ ds) (us ++ vs) := by
  refine ⟨by simp [h1.1, h2.1], fun i c u hi hu => ?_⟩
  rw [List.getElem?_append] at hi
  rw [Array.getElem?_append] at hu
  have := h1.1
  split at hi
  · rw [if_pos (by omega)] at hu
    exact h1.2 i c u hi hu
  · rw [if_neg (by omega)] at hu
    rw [← this] at hu
    exact h2.2 _ c u hi hu
theorem strip_call {f : Operand} {args : List Operand} (hs : strip P o = some (.call f args)) : ∃ c, o.op = .call c ∧ c.callee = .value f ∧ c.args.toList = args := by
  unfold strip at hs
  split at hs <;> (repeat' split at hs) <;> first
    | (cases hs; done)
    | (simp at hs; done)
    | skip
  all_goals (simp only [Option.some.injEq, SOp.call.injEq] at hs; obtain ⟨rfl, rfl⟩ := hs; exact ⟨_, by assumption, by assumption, rfl⟩)
theorem strip_isnil {neg : Bool} {x : Operand} (hs : strip P o = some (.isnil neg x)) : ∃ t e n c t', o.op = .binOp (if neg then .neq else .eql) t x (.const (.slice none n c)) t' ∧ P.underlying t = some (.slice e) := by
  unfold strip at hs
  split at hs <;> (repeat' split at hs) <;> first
    | (cases hs; done)
    | (simp at hs; done)
    | skip
  all_goals (simp only [Option.some.injEq, SOp.isnil.injEq] at hs; obtain ⟨rfl, rfl⟩ := hs; exact ⟨_, _, _, _, _, by assumption, by assumption⟩)
theorem run_isnil {neg : Bool} {x : Operand} {ty e ty' : TypeId} {n c : Nat} {b : Option Addr} {n' c' : Nat} (hty : P.underlying ty = some (.slice e)) (ho : o.op = .binOp (if neg then .neq else .eql) ty x (.const (.slice none n c)) ty')
    (hx : a.eval x = .slice b n' c') : (execOp a.eval o).run P w = .ok (.value (.bool (if neg then !b.isNone else b.isNone))) w := by
  have e1 : a.eval (.const (.slice none n c)) = .slice none n c := rfl
  cases neg
  · simp only [Bool.false_eq_true, if_false] at ho ⊢
    have e2 : eqGuard .eql ty x (.const (.slice none n c)) (.slice b n' c') (.slice none n c) = pure () := rfl
    simp only [execOp, ho, hx, e1, e2, Sem.run_bind, Sem.run_pure, Result.andThen_ok, Lib.run_eql_slice_nil w ty e b n' c' n c hty]
  · simp only [if_true] at ho ⊢
    have e2 : eqGuard .neq ty x (.const (.slice none n c)) (.slice b n' c') (.slice none n c) = pure () := rfl
    simp only [execOp, ho, hx, e1, e2, Sem.run_bind, Sem.run_pure, Result.andThen_ok, run_neq_slice_nil_any w ty e b n' c' n c hty]
theorem wpOper_sound {so : SOp} {gd : Option (Nat × Bool)} {af : List Nat} {Q : List (Nat × AV) → List (Nat × Ob) → Prop} {K : Exit → Act → World → Prop} {next : Act → World → Prop} (hs : strip P o = some so) (hS : Sim C ρ U t h a w) (hfr : ∀ b, U b → ¬ (nm ≤ b ∧ b < nm + 8)) (hd : ∀ d, o.dst = some d → d < C.nt)
    (hw : wpOper P nm ⟨o.dst, so, gd, af⟩ t h Q) (hn : ∀ t' h' a' w' ρ' U', Sim C ρ' U' t' h' a' w' → (∀ b, U' b → U b ∨ (nm ≤ b ∧ b < nm + 8)) → Q t' h' → next a' w') : o.wp P a w next K := by
  have hd' : ∀ d, o.dst = some d → d < a.tmps.size := fun d h => by rw [hS.sz]; exact hd d h
  by_cases hcall : ∃ f args, so = .call f args
  · obtain ⟨f, args, rfl⟩ := hcall
    simp only [wpOper] at hw
    unfold onF at hw
    split at hw
    · rename_i g caps xs hf hxs
      split at hw
      · rename_i hg
        obtain ⟨hE, hW⟩ := hw
        obtain ⟨c, hop, hc, rfl⟩ := strip_call hs
        obtain ⟨vs, hfv, hcaps⟩ := VR.fn_inv (Nat.lt_trans hg (by decide)) (ev_ok hS.tm hf)
        rw [funVal, if_pos hg] at hfv
        have hargs := evL_ok hS.tm hxs
        have hvl := hargs.append hcaps
        unfold Oper.wp
        rw [execCall hc hfv hop hE]
        rw [Oper.upon_enter]
        have e0 : c.args.map a.eval = (c.args.toList.map a.eval).toArray := by apply Array.ext'; simp
        rw [e0]
        refine (hW C ρ U w _ hS.hr hfr hvl).mono fun e w' hpost => ?_
        obtain ⟨v, r, h', ρ', U', rfl, hr', hv', hk, hU, hQ⟩ := hpost
        refine hn _ _ _ _ ρ' U' ⟨hr', Tm.put (fun k x hx => ?_) hv' hd', by rw [put_defers]; exact hS.defers, by rw [put_size]; exact hS.sz⟩ hU hQ
        · obtain ⟨u, h1, h2⟩ := hS.tm k x hx
          exact ⟨u, h1, hk _ _ h2⟩
      · rename_i hg
        split at hw
        · rename_i hg2
          obtain ⟨hE, hW⟩ := hw
          obtain ⟨c, hop, hc, rfl⟩ := strip_call hs
          obtain ⟨vs, hfv, hcaps⟩ := VR.fn_inv hg2 (ev_ok hS.tm hf)
          rw [funVal, if_neg hg] at hfv
          have hargs := evL_ok hS.tm hxs
          have hvl := hcaps.append hargs
          unfold Oper.wp
          rw [execCallM hc hfv hop hE]
          rw [Oper.upon_enter]
          have e0 : c.args.map a.eval = (c.args.toList.map a.eval).toArray := by apply Array.ext'; simp
          rw [e0]
          refine (hW C ρ U w _ hS.hr hfr hvl).mono fun e w' hpost => ?_
          obtain ⟨v, r, h', ρ', U', rfl, hr', hv', hk, hU, hQ⟩ := hpost
          refine hn _ _ _ _ ρ' U' ⟨hr', Tm.put (fun k x hx => ?_) hv' hd', by rw [put_defers]; exact hS.defers, by rw [put_size]; exact hS.sz⟩ hU hQ
          · obtain ⟨u, h1, h2⟩ := hS.tm k x hx
            exact ⟨u, h1, hk _ _ h2⟩
        · exact hw.elim
    · exact hw.elim
  · by_cases hnil : ∃ neg x, so = .isnil neg x
    · obtain ⟨neg, x, rfl⟩ := hnil
      obtain ⟨ty, e, n, c, ty', ho, hty⟩ := strip_isnil hs
      simp only [wpOper, onNil] at hw
      have go1 : ∀ b n' c', a.eval x = .slice b n' c' → Q (putA t o.dst (.v (.bool (if neg then !b.isNone else b.isNone)))) h → o.wp P a w next K := by
        intro b n' c' hx hQ
        unfold Oper.wp
        rw [run_isnil hty ho hx, Oper.upon_value]
        exact hn _ _ _ _ ρ U ⟨hS.hr, Tm.put hS.tm (.p (.v _)) hd', by rw [put_defers]; exact hS.defers, by rw [put_size]; exact hS.sz⟩ (fun b hb => .inl hb) hQ
      split at hw
      · rename_i b hk
        unfold nilK at hk
        split at hk
        · rename_i n' c' hx
          cases hk
          exact go1 none n' c' (ev_ok hS.tm hx).v_inv hw
        · rename_i sz y ys hx
          cases hk
          have hv := (ev_ok hS.tm hx).sl_inv
          generalize hu : a.eval x = u at hv
          cases hv
          exact go1 (some _) _ _ hu hw
        · cases hk
        · cases hk
        · cases hk
      · rename_i hk
        have hsl : ∃ b n' c', a.eval x = .slice b n' c' := by
          unfold nilK at hk
          split at hk
          · cases hk
          · cases hk
          · rename_i sz hx
            have hv := (ev_ok hS.tm hx).sl_inv
            generalize hu : a.eval x = u at hv
            cases hv <;> exact ⟨_, _, _, rfl⟩
          · rename_i hx
            obtain ⟨hu, ⟨ad, len', cap', hsl⟩, hown⟩ := (ev_ok hS.tm hx).own_inv
            exact ⟨_, _, _, hsl⟩
          · cases hk
        obtain ⟨b, n', c', hx⟩ := hsl
        refine go1 b n' c' hx ?_
        cases hb : b.isNone
        · simpa [hb] using hw.2
        · simpa [hb] using hw.1
      · exact hw.elim
    · have hw' : onW nm t h so (eff nm t h so) fun t h e => Q (putA t o.dst e.val) (e.upd ++ h) := by
        cases so <;> first | exact hw | exact absurd ⟨_, _, rfl⟩ hcall | exact absurd ⟨_, _, rfl⟩ hnil
      have main : ∀ (t : List (Nat × AV)) (h : List (Nat × Ob)) (ρ : Nat → Loc) (U : Nat → Prop) (e : E), Sim C ρ U t h a w → (∀ b, U b → ¬ (nm ≤ b ∧ b < nm + 8)) → eff nm t h so = some e → e.pre → Q (putA t o.dst e.val) (e.upd ++ h) →
          (∀ t' h' a' w' ρ' U', Sim C ρ' U' t' h' a' w' → (∀ b, U' b → U b ∨ (nm ≤ b ∧ b < nm + 8)) → Q t' h' → next a' w') → o.wp P a w next K := by
        intro t h ρ U e hS hfr he hp hQ hn
        obtain ⟨v, w', ρ', U', hrun, hr', hv', hk, hU⟩ := eff_sound hs hS.hr hS.tm (fun hu => hfr _ hu ⟨Nat.le_refl _, by omega⟩) he hp
        have hsim : Sim C ρ' U' (putA t o.dst e.val) (e.upd ++ h) (a.put o.dst v) w' :=
          ⟨hr', Tm.put (fun k x hx => by
            obtain ⟨u, h1, h2⟩ := hS.tm k x hx
            exact ⟨u, h1, hk _ _ h2⟩) hv' hd', by rw [put_defers]; exact hS.defers, by rw [put_size]; exact hS.sz⟩
        have hU' : ∀ b, U' b → U b ∨ (nm ≤ b ∧ b < nm + 8) := fun b hb => by
          rcases hU b hb with h1 | h1
          · exact .inl h1
          · exact .inr (by omega)
        unfold Oper.wp
        rcases hrun with hrun | ⟨rfl, hrun⟩
        · rw [hrun, Oper.upon_value]
          exact hn _ _ _ _ ρ' U' hsim hU' hQ
        · rw [hrun, Oper.upon_skip]
          exact hn _ _ _ _ ρ' U' hsim hU' hQ
      unfold onW at hw'
      split at hw'
      · rename_i e he
        exact main t h ρ U e hS hfr he hw'.1 hw'.2 hn
      · obtain ⟨t', h', hW, hE⟩ := hw'
        unfold onE at hE
        split at hE
        · rename_i e he
          obtain ⟨ρ', U', hR, hU'⟩ := hW C ρ U a w ⟨hS.hr, hS.defers, hS.sz, hS.tm⟩
          exact main t' h' ρ' U' e ⟨hR.hr, hR.tm, hR.defers, hR.sz⟩ (fun b hb => hfr b (hU' b hb)) he hE.1 hE.2 fun t'' h'' a'' w'' ρ'' U'' hS'' hU'' hQ'' =>
            hn t'' h'' a'' w'' ρ'' U'' hS'' (fun b hb => (hU'' b hb).imp (hU' b) id) hQ''
        · exact hE.elim
theorem stripOper_some {ops : Array Oper} {draw : Bool} {so : SOper} (hs : stripOper P ops draw o = some so) :
    strip P o = some so.op ∧ so.dst = o.dst ∧ (so.guard = none ↔ o.guard = none) ∧ ∀ g wt, so.guard = some (g, wt) → ∃ j, o.guard = some (j, wt) ∧ ((ops[j]?).bind (·.dst)) = some g := by
  unfold stripOper at hs
  split at hs
  · rename_i sp hsp
    split at hs
    · rename_i hg
      cases hs
      exact ⟨hsp, rfl, by simp [hg], fun g wt e => by simp at e⟩
    · rename_i j wt hg
      split at hs
      · rename_i g hgd
        cases hs
        refine ⟨hsp, rfl, by simp [hg], fun g' wt' e => ?_⟩
        simp only [Option.some.injEq, Prod.mk.injEq] at e
        obtain ⟨rfl, rfl⟩ := e
        exact ⟨j, hg, hgd⟩
      · cases hs
  · cases hs
theorem stripOps_cons {ops : Array Oper} {draw : Bool} {l : List Oper} {sl : List SOper} (hs : stripOps P ops draw (o :: l) = some sl) :
    ∃ so sl', sl = so :: sl' ∧ stripOper P ops draw o = some so ∧ stripOps P ops draw l = some sl' := by
  unfold stripOps at hs
  split at hs
  · rename_i so hso
    split at hs
    · rename_i sl' hsl
      cases hs
      exact ⟨so, sl', rfl, hso, hsl⟩
    · cases hs
  · cases hs
theorem wanted_bool {ops : Array Oper} {j g : Nat} {wt b : Bool} (hg : o.guard = some (j, wt)) (hd : ((ops[j]?).bind (·.dst)) = some g) (hv : a.tmps[g]? = some (.bool b)) :
    Region.wanted o (yielded ops a.tmps) = (b == wt) := by
  simp only [Region.wanted, hg, yielded, hd, Option.bind_some, hv]
  cases b <;> cases wt <;> rfl
theorem wanted_tuple {ops : Array Oper} {j g : Nat} {wt : Bool} {xs : Array Value} (hg : o.guard = some (j, wt)) (hd : ((ops[j]?).bind (·.dst)) = some g) (hv : a.tmps[g]? = some (.tuple xs)) :
    Region.wanted o (yielded ops a.tmps) = false := by
  simp only [Region.wanted, hg, yielded, hd, Option.bind_some, hv]
  cases wt <;> rfl
theorem Sim.skip (hS : Sim C ρ U t h a w) {dst : Option Nat} (hd : ∀ d, dst = some d → d < C.nt) : Sim C ρ U (putA t dst (.v undef)) h (a.put dst undef) w :=
  ⟨hS.hr, Tm.put hS.tm (.p (.v _)) (fun d h => by rw [hS.sz]; exact hd d h), by rw [put_defers]; exact hS.defers, by rw [put_size]; exact hS.sz⟩
theorem wpOps_sound {ops : Array Oper} {draw : Bool} {K : Exit → Act → World → Prop} {Q : List (Nat × AV) → List (Nat × Ob) → Prop} (l : List Oper) :
    ∀ (sl : List SOper) (nm : Nat) (t : List (Nat × AV)) (h : List (Nat × Ob)) (a : Act) (w : World) (ρ : Nat → Loc) (U : Nat → Prop),
      stripOps P ops draw l = some sl → okDst C.nt sl = true → Sim C ρ U t h a w → (∀ b, U b → b < nm) → wpOps P nm sl t h Q →
      (∀ t' h' a' w' ρ' U', Sim C ρ' U' t' h' a' w' → (∀ b, U' b → b < nm + 8 * sl.length) → Q t' h' → K .normal a' w') → wpList P ops K l a w := by
  induction l with
  | nil =>
    intro sl nm t h a w ρ U hs _ hS hU hw hn
    simp only [stripOps, Option.some.injEq] at hs
    subst hs
    exact hn t h a w ρ U hS (fun b hb => by have := hU b hb; simp; omega) hw
  | cons o l ih =>
    intro sl nm t h a w ρ U hs hd hS hU hw hn
    obtain ⟨so, sl', rfl, hso, hsl⟩ := stripOps_cons hs
    obtain ⟨h1, h2, h3, h4⟩ := stripOper_some hso
    simp only [okDst, Bool.and_eq_true] at hd
    have hdst : ∀ d, o.dst = some d → d < C.nt := fun d e => by
      have := hd.1
      rw [h2, e] at this
      simpa using this
    have hfr : ∀ b, U b → ¬ (nm ≤ b ∧ b < nm + 8) := fun b hb => by have := hU b hb; omega
    have hrest : ∀ t' h' a' w' ρ' U', Sim C ρ' U' t' h' a' w' → (∀ b, U' b → U b ∨ (nm ≤ b ∧ b < nm + 8)) → wpOps P (nm + 8) sl' t' h' Q → wpList P ops K l a' w' :=
      fun t' h' a' w' ρ' U' hS' hU' hw' => ih sl' (nm + 8) t' h' a' w' ρ' U' hsl hd.2 hS' (fun b hb => by
        rcases hU' b hb with e | e
        · have := hU b e; omega
        · omega) hw' fun t'' h'' a'' w'' ρ'' U'' hS'' hU'' hQ => hn t'' h'' a'' w'' ρ'' U'' hS'' (fun b hb => by have := hU'' b hb; simp only [List.length_cons]; omega) hQ
    have hdo : ∀ {gd af}, wpOper P nm ⟨o.dst, so.op, gd, af⟩ t h (fun t' h' => wpOps P (nm + 8) sl' t' h' Q) → o.wp P a w (wpList P ops K l) K := fun hw' =>
      wpOper_sound h1 hS hfr hdst hw' hrest
    have hskip : wpOps P (nm + 8) sl' (putA t o.dst (.v undef)) h Q → wpList P ops K l (a.put o.dst undef) w := fun hw' =>
      hrest _ _ _ _ ρ U (hS.skip hdst) (fun b hb => .inl hb) hw'
    obtain ⟨dst, op, gd, af⟩ := so
    subst h2
    simp only [wpOps] at hw
    simp only [wpList]
    split at hw
    · rename_i hg
      have hg' := h3.1 rfl
      have : Region.wanted o (yielded ops a.tmps) = true := by simp [Region.wanted, hg']
      rw [if_pos this]
      exact .inl (hdo hw)
    · rename_i g wt
      obtain ⟨j, hj, hjd⟩ := h4 g wt rfl
      unfold onG at hw
      split at hw
      · rename_i b hx
        obtain ⟨u, hu, hv⟩ := hS.tm g _ hx
        have := hv.v_inv
        subst this
        rw [wanted_bool hj hjd hu]
        cases b <;> cases wt
        · exact .inl (hdo (hw.2 rfl))
        · exact hskip (hw.2 rfl)
        · exact hskip (hw.1 rfl)
        · exact .inl (hdo (hw.1 rfl))
      · rename_i xs hx
        obtain ⟨u, hu, hv⟩ := hS.tm g _ hx
        have := hv.v_inv
        subst this
        rw [wanted_tuple hj hjd hu]
        exact hskip hw
      · exact hw.elim
end
end Go.Eng

namespace Go.Eng
open Go
theorem evL_congr {t t' : List (Nat × AV)} : ∀ (l : List Operand), (∀ x ∈ l, ev t' x = ev t x) → evL t' l = evL t l
  | [], _ => rfl
  | x :: l, h => by
    simp only [evL, h x (List.mem_cons_self ..), evL_congr l fun y hy => h y (List.mem_cons_of_mem _ hy)]
theorem partsA_congr {t t' : List (Nat × AV)} : ∀ (l : List (Nat × Nat × Operand)), (∀ x ∈ l.map (fun p => p.2.2), ev t' x = ev t x) → partsA t' l = partsA t l
  | [], _ => rfl
  | (a, b, x) :: l, h => by
    simp only [partsA, h x (by simp), partsA_congr l fun y hy => h y (by simp only [List.map_cons, List.mem_cons]; exact .inr hy)]
theorem partsR_congr {t t' : List (Nat × AV)} {sz : Nat} : ∀ (l : List (Nat × Operand)), (∀ x ∈ l.map (fun p => p.2), ev t' x = ev t x) → partsR t' sz l = partsR t sz l
  | [], _ => rfl
  | (a, x) :: l, h => by
    simp only [partsR, h x (by simp), partsR_congr l fun y hy => h y (by simp only [List.map_cons, List.mem_cons]; exact .inr hy)]
theorem bound_congr {t t' : List (Nat × AV)} {d : Nat} (x : Option Operand) (h : ∀ y ∈ x.toList, ev t' y = ev t y) : bound t' d x = bound t d x := by
  cases x with
  | none => rfl
  | some y => simp only [bound, h y (by simp)]
theorem contentsN_congr {h h' : List (Nat × Ob)} {sz : Nat} (x : Option AV) (hb : ∀ b ∈ nmsO x, get h' b = get h b) : contentsN h' sz x = contentsN h sz x := by
  unfold contentsN
  split <;> try rfl
  rename_i b sz' off len
  rw [hb b (by simp [nmsO, AV.nms])]
theorem eff_dep {nm : Nat} {t t' : List (Nat × AV)} {h h' : List (Nat × Ob)} (op : SOp) (hx : ∀ x ∈ opnds op, ev t' x = ev t x) (hb : ∀ b ∈ rdOf t op, get h' b = get h b) :
    eff nm t' h' op = eff nm t h op := by
  cases op <;> simp only [opnds, List.mem_cons, List.mem_append, List.not_mem_nil, or_false, forall_eq_or_imp, forall_eq] at hx <;>
    simp only [rdOf, List.not_mem_nil, List.mem_append] at hb <;> simp only [eff]
  case mov x => simp only [hx]
  case pick a b c => simp only [hx]
  case box x => simp only [hx]
  case build zs ps => rw [partsA_congr ps hx]
  case bslice e sz zs len ps => rw [partsR_congr ps hx]
  case load ag sz x =>
    rw [hx]
    cases hy : ev t x with
    | none => rfl
    | some y => cases y <;> first
      | rfl
      | (simp only [hy, nmsO, AV.nms, List.mem_cons, List.not_mem_nil, or_false, forall_eq] at hb; first | (simp only [hb]; done) | (split <;> simp_all; done) | (cases z0 <;> first | rfl | (rename_i y; cases y <;> first | rfl | (rename_i y; cases y <;> first | rfl | simp only [hb]))))
  case store sz x y =>
    rw [hx.1, hx.2]
    generalize ev t y = z0
    cases hy : ev t x with
    | none => cases z0 <;> rfl
    | some y => cases y <;> first
      | rfl
      | (simp only [hy, nmsO, AV.nms, List.mem_cons, List.not_mem_nil, or_false, forall_eq] at hb; first | (simp only [hb]; done) | (split <;> simp_all; done) | (cases z0 <;> first | rfl | (rename_i y; cases y <;> first | rfl | (rename_i y; cases y <;> first | rfl | simp only [hb]))))
  case nilc x =>
    rw [hx]
    cases hy : ev t x with
    | none => rfl
    | some y => cases y <;> first
      | rfl
      | (simp only [hy, nmsO, AV.nms, List.mem_cons, List.not_mem_nil, or_false, forall_eq] at hb; first | (simp only [hb]; done) | (split <;> simp_all; done) | (cases z0 <;> first | rfl | (rename_i y; cases y <;> first | rfl | (rename_i y; cases y <;> first | rfl | simp only [hb]))))
  case bin op x y => simp only [hx]
  case eqs neg ks x y => simp only [hx]
  case eqb neg x y => simp only [hx]
  case un op x => simp only [hx]
  case conv k x => simp only [hx]
  case b2s x => rw [hx, contentsN_congr _ hb]
  case mkfn f cs => rw [evL_congr cs hx]
  case mkmfn f cs => rw [evL_congr cs hx]
  case look z m k =>
    rw [hx.1, hx.2]
    generalize ev t k = z0
    cases hy : ev t m with
    | none => cases z0 <;> rfl
    | some y => cases y <;> first
      | rfl
      | (simp only [hy, nmsO, AV.nms, List.mem_cons, List.not_mem_nil, or_false, forall_eq] at hb; first | (simp only [hb]; done) | (split <;> simp_all; done) | (cases z0 <;> first | rfl | (rename_i y; cases y <;> first | rfl | (rename_i y; cases y <;> first | rfl | simp only [hb]))))
  case look2 z m k =>
    rw [hx.1, hx.2]
    generalize ev t k = z0
    cases hy : ev t m with
    | none => cases z0 <;> rfl
    | some y => cases y <;> first
      | rfl
      | (simp only [hy, nmsO, AV.nms, List.mem_cons, List.not_mem_nil, or_false, forall_eq] at hb; first | (simp only [hb]; done) | (split <;> simp_all; done) | (cases z0 <;> first | rfl | (rename_i y; cases y <;> first | rfl | (rename_i y; cases y <;> first | rfl | simp only [hb]))))
  case mput m k x =>
    rw [hx.1, hx.2.1, hx.2.2]
    generalize ev t k = z0
    generalize ev t x = z1
    cases hy : ev t m with
    | none => cases z0 <;> cases z1 <;> rfl
    | some y => cases y <;> first
      | rfl
      | (simp only [hy, nmsO, AV.nms, List.mem_cons, List.not_mem_nil, or_false, forall_eq] at hb; first | (simp only [hb]; done) | (split <;> simp_all; done) | (cases z0 <;> first | rfl | (rename_i y; cases y <;> first | rfl | (rename_i y; cases y <;> first | rfl | simp only [hb]))))
  case mkslice e sz bytes zs l c => simp only [hx]
  case slice sz x lo hi mx =>
    have e1 : bound t' 0 lo = bound t 0 lo := bound_congr lo fun y hy => hx.2 y (.inl hy)
    have e2 : ∀ d, bound t' d hi = bound t d hi := fun d => bound_congr hi fun y hy => hx.2 y (.inr (.inl hy))
    cases mx with
    | some m =>
      have e3 : ev t' m = ev t m := hx.2 m (.inr (.inr (by simp)))
      cases hi with
      | none =>
        simp only [e1, e3, hx.1]
        generalize bound t 0 lo = z0
        cases ev t x with
        | none => cases z0 <;> rfl
        | some y => cases y <;> cases z0 <;> first | rfl | (simp only []; done) | (split <;> rfl) | (split <;> simp_all)
      | some q =>
        have e4 : ev t' q = ev t q := hx.2 q (.inr (.inl (by simp)))
        simp only [e1, e3, e4, hx.1]
        generalize bound t 0 lo = z0
        cases hy : ev t x with
        | none => cases z0 <;> rfl
        | some y => cases y <;> cases z0 <;> first | rfl | (simp only []; done) | (split <;> rfl) | (split <;> simp_all <;> (try (simp only [nmsO, AV.nms, List.mem_cons, List.not_mem_nil, or_false, forall_eq] at hb; simp only [hb])))
    | none =>
    simp only [e1, e2]
    rw [hx.1]
    generalize bound t 0 lo = z0
    cases hy : ev t x with
    | none => cases z0 <;> rfl
    | some y => cases y <;> first
      | rfl
      | (simp only [hy, nmsO, AV.nms, List.mem_cons, List.not_mem_nil, or_false, forall_eq] at hb; first | (simp only [hb]; done) | (split <;> simp_all; done) | (cases z0 <;> first | rfl | (rename_i y; cases y <;> first | rfl | (rename_i y; cases y <;> first | rfl | simp only [hb]))))
  case sslice x lo hi =>
    have e1 : bound t' 0 lo = bound t 0 lo := bound_congr lo fun y hy => hx.2 y (.inl hy)
    have e2 : ∀ d, bound t' d hi = bound t d hi := fun d => bound_congr hi fun y hy => hx.2 y (.inr hy)
    simp only [e1, e2, hx.1]
  case faddr off x =>
    rw [hx]
    cases hy : ev t x with
    | none => rfl
    | some y => cases y <;> first
      | rfl
      | (simp only [hy, nmsO, AV.nms, List.mem_cons, List.not_mem_nil, or_false, forall_eq] at hb; first | (simp only [hb]; done) | (split <;> simp_all; done) | (cases z0 <;> first | rfl | (rename_i y; cases y <;> first | rfl | (rename_i y; cases y <;> first | rfl | simp only [hb]))))
  case fld ag off sz x => simp only [hx]
  case iaddr sz x i =>
    rw [hx.1, hx.2]
    generalize ev t i = z0
    cases hy : ev t x with
    | none => cases z0 <;> rfl
    | some y => cases y <;> first
      | rfl
      | (simp only [hy, nmsO, AV.nms, List.mem_cons, List.not_mem_nil, or_false, forall_eq] at hb; first | (simp only [hb]; done) | (split <;> simp_all; done) | (cases z0 <;> first | rfl | (rename_i y; cases y <;> first | rfl | (rename_i y; cases y <;> first | rfl | simp only [hb]))))
  case idx ag len sz x i => simp only [hx]
  case idxs x i => simp only [hx]
  case len x =>
    rw [hx]
    cases hy : ev t x with
    | none => rfl
    | some y => cases y <;> first
      | rfl
      | (simp only [hy, nmsO, AV.nms, List.mem_cons, List.not_mem_nil, or_false, forall_eq] at hb; first | (simp only [hb]; done) | (split <;> simp_all; done) | (cases z0 <;> first | rfl | (rename_i y; cases y <;> first | rfl | (rename_i y; cases y <;> first | rfl | simp only [hb]))))
  case slen x => simp only [hx]
  case cap x => simp only [hx]
  case app e sz bytes zs s x =>
    rw [hx.1, hx.2, contentsN_congr (ev t x) fun b hb' => hb b (.inr hb')]
    have hb := fun b h => hb b (.inl h)
    cases hy : ev t s with
    | none => rfl
    | some y => cases y <;> first
      | rfl
      | (simp only [hy, nmsO, AV.nms, List.mem_cons, List.not_mem_nil, or_false, forall_eq] at hb; first | (simp only [hb]; done) | (split <;> simp_all; done) | (cases z0 <;> first | rfl | (rename_i y; cases y <;> first | rfl | (rename_i y; cases y <;> first | rfl | simp only [hb]))))
  case copy sz d x =>
    rw [hx.1, hx.2, contentsN_congr (ev t x) fun b hb' => hb b (.inr hb')]
    have hb := fun b h => hb b (.inl h)
    cases hy : ev t d with
    | none => rfl
    | some y => cases y <;> first
      | rfl
      | (simp only [hy, nmsO, AV.nms, List.mem_cons, List.not_mem_nil, or_false, forall_eq] at hb; first | (simp only [hb]; done) | (split <;> simp_all; done) | (cases z0 <;> first | rfl | (rename_i y; cases y <;> first | rfl | (rename_i y; cases y <;> first | rfl | simp only [hb]))))
  case appz e sz bytes zs s x => simp only [hx]
  case clr sz zs x =>
    rw [hx]
    cases hy : ev t x with
    | none => rfl
    | some y => cases y <;> first
      | rfl
      | (simp only [hy, nmsO, AV.nms, List.mem_cons, List.not_mem_nil, or_false, forall_eq] at hb; first | (simp only [hb]; done) | (split <;> simp_all; done) | (cases z0 <;> first | rfl | (rename_i y; cases y <;> first | rfl | (rename_i y; cases y <;> first | rfl | simp only [hb]))))
  case ext i x => simp only [hx]
  case minmax mx xs => rw [evL_congr xs hx]
end Go.Eng

namespace Go.Eng
open Go
section fold
variable {α β : Type}
def foldG (u : α → List (Nat × β)) : List α → (Nat → Bool) → List (Nat × β) → List (Nat × β)
  | [], _, t => t
  | x :: L, D, t => foldG u L (fun i => D (i + 1)) (bif D 0 then u x ++ t else t)
def keys (us : List (Nat × β)) : List Nat := us.map Prod.fst
theorem get_append_in {us t : List (Nat × β)} {k : Nat} (h : k ∈ keys us) : get (us ++ t) k = get us k := by
  induction us with
  | nil => simp [keys] at h
  | cons p us ih =>
    obtain ⟨a, b⟩ := p
    simp only [List.cons_append, get]
    by_cases e : a = k
    · rw [if_pos e, if_pos e]
    · rw [if_neg e, if_neg e]
      simp only [keys, List.map_cons, List.mem_cons] at h
      exact ih (h.resolve_left (fun h => e h.symm))
theorem get_append_out {us t : List (Nat × β)} {k : Nat} (h : k ∉ keys us) : get (us ++ t) k = get t k := by
  induction us with
  | nil => rfl
  | cons p us ih =>
    obtain ⟨a, b⟩ := p
    simp only [keys, List.map_cons, List.mem_cons, not_or] at h
    simp only [List.cons_append, get]
    rw [if_neg (fun e => h.1 e.symm)]
    exact ih h.2
variable {u : α → List (Nat × β)}
theorem foldG_read : ∀ (L : List α) (D E : Nat → Bool) (t t' : List (Nat × β)) (k : Nat), get t k = get t' k →
    (∀ i x, L[i]? = some x → k ∈ keys (u x) → D i = E i) → get (foldG u L D t) k = get (foldG u L E t') k
  | [], _, _, _, _, _, h, _ => h
  | x :: L, D, E, t, t', k, h, hk => by
    simp only [foldG]
    refine foldG_read L _ _ _ _ k ?_ fun i y hy hm => hk (i + 1) y (by simpa using hy) hm
    by_cases hx : k ∈ keys (u x)
    · rw [← hk 0 x rfl hx]
      cases D 0
      · exact h
      · simp only [cond_true]; rw [get_append_in hx, get_append_in hx]
    · cases D 0 <;> cases E 0 <;> simp only [cond_true, cond_false, get_append_out hx] <;> exact h
theorem foldG_none : ∀ (L : List α) (t : List (Nat × β)), foldG u L (fun _ => false) t = t
  | [], _ => rfl
  | _ :: L, t => by simp only [foldG, cond_false]; exact foldG_none L t
theorem foldG_last : ∀ (L : List α) (j : Nat) (x : α) (D : Nat → Bool) (t : List (Nat × β)) (k : Nat), L[j]? = some x → D j = true → k ∈ keys (u x) →
    (∀ i y, j < i → D i = true → L[i]? = some y → k ∉ keys (u y)) → get (foldG u L D t) k = get (u x) k
  | [], _, _, _, _, _, h, _, _, _ => by simp at h
  | y :: L, 0, x, D, t, k, h, hD, hk, hn => by
    simp only [List.getElem?_cons_zero, Option.some.injEq] at h
    subst h
    simp only [foldG, hD, cond_true]
    rw [foldG_read L _ (fun _ => false) _ _ k rfl fun i z hz hm => ?_, foldG_none, get_append_in hk]
    cases hd : D (i + 1) with
    | false => rfl
    | true => exact absurd hm (hn (i + 1) z (by omega) hd (by simpa using hz))
  | y :: L, j + 1, x, D, t, k, h, hD, hk, hn => by
    simp only [foldG]
    exact foldG_last L j x _ _ k (by simpa using h) hD hk fun i z hi hd hz => hn (i + 1) z (by omega) hd (by simpa using hz)
def setD (D : Nat → Bool) (j : Nat) : Nat → Bool := fun i => D i || i == j
theorem foldG_insert {L : List α} {j : Nat} {x : α} {D : Nat → Bool} {t : List (Nat × β)} (h : L[j]? = some x) (hD : D j = false)
    (hn : ∀ i y, j < i → D i = true → L[i]? = some y → ∀ k ∈ keys (u x), k ∉ keys (u y)) (k : Nat) :
    get (foldG u L (setD D j) t) k = get (u x ++ foldG u L D t) k := by
  by_cases hk : k ∈ keys (u x)
  · rw [get_append_in hk]
    refine foldG_last L j x _ t k h (by simp [setD]) hk fun i y hi hd hy => hn i y hi ?_ hy k hk
    have : (i == j) = false := by simp; omega
    simpa [setD, this] using hd
  · rw [get_append_out hk]
    refine foldG_read L _ _ _ _ k rfl fun i y hy hm => ?_
    by_cases e : i = j
    · subst e
      rw [h] at hy; cases hy
      exact absurd hm hk
    · simp [setD, e]
end fold
theorem foldl_bit (acc : List Nat) (i : Nat) : ∀ (af : List Nat) (s : Nat), (af.foldl (fun s e => s ||| (2 ^ e ||| acc.getD e 0)) s).testBit i = true →
    s.testBit i = true ∨ ∃ e ∈ af, e = i ∨ (acc.getD e 0).testBit i = true
  | [], s, h => .inl h
  | e :: af, s, h => by
    simp only [List.foldl_cons] at h
    rcases foldl_bit acc i af _ h with h | ⟨e', he', h⟩
    · simp only [Nat.testBit_or, Bool.or_eq_true, Nat.testBit_two_pow, decide_eq_true_eq] at h
      rcases h with h | h | h
      · exact .inl h
      · exact .inr ⟨e, List.mem_cons_self .., .inl h⟩
      · exact .inr ⟨e, List.mem_cons_self .., .inr h⟩
    · exact .inr ⟨e', List.mem_cons_of_mem _ he', h⟩
def BefOk (as : List (List Nat)) (acc : List Nat) : Prop :=
  ∀ (j m : Nat), acc[j]? = some m → ∀ D : Nat → Bool, (∀ i af, D i = true → as[i]? = some af → ∀ e ∈ af, D e = true) → (∀ af, as[j]? = some af → ∀ e ∈ af, D e = true) →
    ∀ i, m.testBit i = true → D i = true
theorem befGo_ok (as : List (List Nat)) : ∀ (l : List (List Nat)) (acc : List Nat), as = as.take acc.length ++ l → acc.length ≤ as.length → BefOk as acc → BefOk as (befGo acc l)
  | [], acc, _, _, h => h
  | af :: l, acc, he, hl, h => by
    have haf : as[acc.length]? = some af := by
      rw [he, List.getElem?_append_right (by simp; omega)]
      simp [Nat.min_eq_left hl]
    have hlt : acc.length < as.length := (List.getElem?_eq_some_iff.1 haf).1
    refine befGo_ok as l _ ?_ (by simp; omega) ?_
    · have e1 : (acc ++ [af.foldl (fun s e => s ||| (2 ^ e ||| acc.getD e 0)) 0]).length = acc.length + 1 := by simp
      rw [e1, List.take_succ, haf]
      simpa using he
    · intro j m hj D hD hj' i hi
      rw [List.getElem?_append] at hj
      split at hj
      · exact h j m hj D hD hj' i hi
      · rename_i hge
        have hj0 : j - acc.length = 0 := by
          rcases Nat.eq_zero_or_pos (j - acc.length) with e | e
          · exact e
          · rw [List.getElem?_eq_none (by simp; omega)] at hj; cases hj
        rw [hj0] at hj
        simp only [List.getElem?_cons_zero, Option.some.injEq] at hj
        have hje : j = acc.length := by omega
        subst hje
        rw [← hj] at hi
        rcases foldl_bit acc i af 0 hi with h0 | ⟨e, he', h0⟩
        · simp at h0
        · have hDe := hj' af haf e he'
          rcases h0 with rfl | h0
          · exact hDe
          · have hlt : e < acc.length := by
              rcases Nat.lt_or_ge e acc.length with h1 | h1
              · exact h1
              · rw [List.getD_eq_getElem?_getD, List.getElem?_eq_none h1] at h0
                simp at h0
            have hm : acc[e]? = some (acc.getD e 0) := by
              rw [List.getD_eq_getElem?_getD, List.getElem?_eq_getElem hlt]; rfl
            exact h e _ hm D hD (fun af' haf' e' he'' => hD e af' hDe haf' e' he'') i h0
theorem okAfter_spec : ∀ (l : List SOper) (n : Nat), okAfter n l = true → ∀ (j : Nat) (o : SOper), l[j]? = some o → ∀ e ∈ o.after, e < n + j
  | [], _, _, j, o, h => by simp at h
  | o :: l, n, h, 0, o', h' => by
    simp only [List.getElem?_cons_zero, Option.some.injEq] at h'
    subst h'
    simp only [okAfter, Bool.and_eq_true, List.all_eq_true, decide_eq_true_eq] at h
    exact fun e he => h.1 e he
  | o :: l, n, h, j + 1, o', h' => by
    simp only [okAfter, Bool.and_eq_true] at h
    intro e he
    have := okAfter_spec l (n + 1) h.2 j o' (by simpa using h') e he
    omega
theorem okPairs_spec (bef : List Nat) (all : List (SOper × Foot)) : ∀ (l : List (SOper × Foot)) (n : Nat), okPairs bef all n l = true →
    ∀ (j : Nat) (y : SOper × Foot), l[j]? = some y → ∀ (i : Nat) (x : SOper × Foot), i < n + j → all[i]? = some x → (bef.getD (n + j) 0).testBit i = true ∨ noconf x y = true
  | [], _, _, j, o, h => by simp at h
  | y :: l, n, h, 0, y', h' => by
    simp only [List.getElem?_cons_zero, Option.some.injEq] at h'
    subst h'
    simp only [okPairs, Bool.and_eq_true, List.all_eq_true, Bool.or_eq_true] at h
    intro i x hi hx
    have := h.1 (x, i) (by
      rw [List.mem_iff_getElem?]
      refine ⟨i, ?_⟩
      rw [List.getElem?_zipIdx, List.getElem?_take, if_pos (by omega), hx]
      simp)
    simpa using this
  | y :: l, n, h, j + 1, y', h' => by
    simp only [okPairs, Bool.and_eq_true] at h
    intro i x hi hx
    have := okPairs_spec bef all l (n + 1) h.2 j y' (by simpa using h') i x (by omega) hx
    have e : n + (j + 1) = n + 1 + j := by omega
    rw [e]; exact this
theorem offB_spec {xs ys : List Nat} (h : offB xs ys = true) {b : Nat} (hb : b ∈ xs) : b ∉ ys := by
  simp only [offB, List.all_eq_true, Bool.not_eq_true'] at h
  have := h b hb
  simpa using this
end Go.Eng

namespace Go.Eng
open Go
def uT (x : SOper × Rec) : List (Nat × AV) := match x.1.dst with
  | some d => [(d, x.2.val)]
  | none => []
def uH (x : SOper × Rec) : List (Nat × Ob) := x.2.upd
def foot (r : Rec) : Foot := (r.rd, r.upd.map Prod.fst)
def Rec.skip : Rec := ⟨.v undef, [], []⟩
theorem putA_eq (t : List (Nat × AV)) (o : SOper) (r : Rec) : putA t o.dst r.val = uT (o, r) ++ t := by
  unfold putA uT
  cases o.dst <;> rfl
section
variable {P : Program} {nm : Nat} {t t' : List (Nat × AV)} {h h' : List (Nat × Ob)}
theorem ev_tmps : ∀ (l : List Operand), (∀ k ∈ tmpsO l, get t' k = get t k) → ∀ x ∈ l, ev t' x = ev t x
  | [], _, x, hx => by simp at hx
  | y :: l, h, x, hx => by
    rcases List.mem_cons.1 hx with rfl | hx
    · cases x <;> simp only [tmpsO, List.mem_cons, forall_eq_or_imp] at h <;> simp only [ev]
      exact h.1
    · refine ev_tmps l (fun k hk => h k ?_) x hx
      cases y <;> simp only [tmpsO, List.mem_cons] <;> first | exact hk | exact .inr hk
def ActD (P : Program) (nm : Nat) (o : SOper) (t : List (Nat × AV)) (h : List (Nat × Ob)) (r : Rec) : Prop :=
  ∀ t' h', (∀ k ∈ tmpsO (opnds o.op), get t' k = get t k) → (∀ b ∈ r.rd, get h' b = get h b) → ∀ Q : List (Nat × AV) → List (Nat × Ob) → Prop,
    Q (putA t' o.dst r.val) (r.upd ++ h') → wpOper P nm o t' h' Q
theorem wpOpD_spec {o : SOper} {k : Rec → Prop} (hw : wpOpD P nm o t h k) : ∃ r, k r ∧ ActD P nm o t h r := by
  unfold wpOpD at hw
  split at hw
  · rename_i f args hop
    unfold onF at hw
    split at hw
    · rename_i g caps xs hf hxs
      split at hw
      · rename_i hg
        obtain ⟨r, hc, hk⟩ := hw
        refine ⟨r, hk, fun t' h' ht hb Q hQ => ?_⟩
        have he := ev_tmps _ ht
        simp only [hop, opnds, List.mem_cons, forall_eq_or_imp] at he
        unfold wpOper
        rw [hop]
        simp only [he.1, evL_congr args he.2, hf, hxs, onF, if_pos hg]
        exact hc h' hb _ hQ
      · rename_i hg
        split at hw
        · rename_i hg2
          obtain ⟨r, hc, hk⟩ := hw
          refine ⟨r, hk, fun t' h' ht hb Q hQ => ?_⟩
          have he := ev_tmps _ ht
          simp only [hop, opnds, List.mem_cons, forall_eq_or_imp] at he
          unfold wpOper
          rw [hop]
          simp only [he.1, evL_congr args he.2, hf, hxs, onF, if_neg hg, if_pos hg2]
          exact hc h' hb _ hQ
        · exact hw.elim
    · exact hw.elim
  · rename_i neg x hop
    unfold onNilD at hw
    split at hw
    · rename_i b hb
      refine ⟨_, hw, fun t' h' ht _ Q hQ => ?_⟩
      have he := ev_tmps _ ht
      simp only [hop, opnds, List.mem_cons, List.not_mem_nil, or_false, forall_eq] at he
      unfold wpOper
      rw [hop]
      simp only [he, hb, onNil]
      exact hQ
    · exact hw.elim
  · rename_i op h1 h2
    unfold onE at hw
    split at hw
    · rename_i e he
      refine ⟨_, hw.2, fun t' h' ht hb Q hQ => ?_⟩
      have hd := eff_dep (nm := nm) o.op (ev_tmps _ ht) hb
      rw [he] at hd
      unfold wpOper
      split
      · rename_i f args hop; exact absurd hop (h1 f args)
      · rename_i neg x hop; exact absurd hop (h2 neg x)
      · unfold onW; rw [hd]; exact ⟨hw.1, hQ⟩
    · exact hw.elim
def StepD (P : Program) (nm : Nat) (o : SOper) (t : List (Nat × AV)) (h : List (Nat × Ob)) (r : Rec) : Prop :=
  (o.guard = none ∧ ActD P nm o t h r) ∨ ∃ g want, o.guard = some (g, want) ∧
    ((get t g = some (.v (.bool want)) ∧ ActD P nm o t h r) ∨ (r = Rec.skip ∧ ((get t g = some (.v (.bool (!want)))) ∨ ∃ xs, get t g = some (.v (.tuple xs)))))
theorem wpDrawL_spec : ∀ (l : List SOper) (nm : Nat) (acc : List Foot) (t : List (Nat × AV)) (h : List (Nat × Ob)) (Q : List Foot → List (Nat × AV) → List (Nat × Ob) → Prop),
    wpDrawL P nm l acc t h Q → ∃ rs : List Rec, rs.length = l.length ∧ Q ((rs.map foot).reverse ++ acc) (foldG uT (l.zip rs) (fun _ => true) t) (foldG uH (l.zip rs) (fun _ => true) h) ∧
      ∀ j o r, l[j]? = some o → rs[j]? = some r → StepD P (nm + 8 * j) o (foldG uT (l.zip rs) (fun i => decide (i < j)) t) (foldG uH (l.zip rs) (fun i => decide (i < j)) h) r
  | [], nm, acc, t, h, Q, hw => ⟨[], rfl, hw, fun j o r ho => by simp at ho⟩
  | o :: l, nm, acc, t, h, Q, hw => by
    apply Classical.byContradiction
    intro hno
    have key : ∀ r, StepD P nm o t h r → wpDrawL P (nm + 8) l (foot r :: acc) (putA t o.dst r.val) (r.upd ++ h) Q → False := by
      intro r hr hw
      obtain ⟨rs, h1, h2, h3⟩ := wpDrawL_spec l _ _ _ _ Q hw
      refine hno ⟨r :: rs, by simp [h1], ?_, fun j o' r' ho hr' => ?_⟩
      · simp only [List.map_cons, List.reverse_cons, List.append_assoc, List.singleton_append, List.zip_cons_cons, foldG, cond_true]
        rw [← putA_eq]
        exact h2
      · cases j with
        | zero =>
          simp only [List.getElem?_cons_zero, Option.some.injEq] at ho hr'
          subst ho; subst hr'
          simp only [Nat.mul_zero, Nat.add_zero, Nat.not_lt_zero, decide_false, foldG_none]
          exact hr
        | succ j =>
          have := h3 j o' r' (by simpa using ho) (by simpa using hr')
          have e1 : nm + 8 + 8 * j = nm + 8 * (j + 1) := by omega
          rw [e1] at this
          simp only [List.zip_cons_cons, foldG, Nat.zero_lt_succ, decide_true, cond_true, Nat.add_lt_add_iff_right]
          rw [← putA_eq]
          exact this
    have kskip : (∃ g want, o.guard = some (g, want) ∧ ((get t g = some (.v (.bool (!want)))) ∨ ∃ xs, get t g = some (.v (.tuple xs)))) →
        wpDrawL P (nm + 8) l (([], []) :: acc) (putA t o.dst (.v undef)) h Q → False := fun hg hw =>
      key Rec.skip (.inr (by obtain ⟨g, want, e, hh⟩ := hg; exact ⟨g, want, e, .inr ⟨rfl, hh⟩⟩)) hw
    simp only [wpDrawL] at hw
    split at hw
    · rename_i hg
      obtain ⟨r, hk, hr⟩ := wpOpD_spec hw
      exact key r (.inl ⟨hg, hr⟩) hk
    · rename_i g want hg
      unfold onG at hw
      split at hw
      · rename_i b hb
        have kact : b = want → wpOpD P nm o t h (fun r => wpDrawL P (nm + 8) l ((r.rd, r.upd.map Prod.fst) :: acc) (putA t o.dst r.val) (r.upd ++ h) Q) → False := fun e hw' => by
          subst e
          obtain ⟨r, hk, hr⟩ := wpOpD_spec hw'
          exact key r (.inr ⟨g, b, hg, .inl ⟨hb, hr⟩⟩) hk
        cases b <;> cases want
        · exact kact rfl (hw.2 rfl)
        · exact kskip ⟨g, true, hg, .inl hb⟩ (hw.2 rfl)
        · exact kskip ⟨g, false, hg, .inl hb⟩ (hw.1 rfl)
        · exact kact rfl (hw.1 rfl)
      · rename_i xs hb
        exact kskip ⟨g, want, hg, .inr ⟨xs, hb⟩⟩ hw
      · exact hw.elim
end
theorem HR.ext {C : Ctx} {ρ : Nat → Loc} {U : Nat → Prop} {h h' : List (Nat × Ob)} {w : World} (hr : HR C ρ U h w) (e : ∀ b, get h' b = get h b) : HR C ρ U h' w :=
  { hr with
    hp := fun b o hb => hr.hp b o (by rw [← e]; exact hb)
    hd := fun b hb => hr.hd b (by rw [← e]; exact hb)
    fix := fun b l hb => by
      obtain ⟨h1, h2, cs, h3⟩ := hr.fix b l hb
      exact ⟨h1, h2, cs, by rw [e]; exact h3⟩ }
theorem Sim.ext {C : Ctx} {ρ : Nat → Loc} {U : Nat → Prop} {t t' : List (Nat × AV)} {h h' : List (Nat × Ob)} {a : Act} {w : World} (hS : Sim C ρ U t h a w) (e1 : ∀ k, get t' k = get t k)
    (e2 : ∀ b, get h' b = get h b) : Sim C ρ U t' h' a w :=
  ⟨hS.hr.ext e2, fun k x hk => hS.tm k x (by rw [← e1]; exact hk), hS.defers, hS.sz⟩
section draw
variable {P : Program} {C : Ctx} {ops : Array Oper} {sl : List SOper} {rs : List Rec} {n : Nat} {t0 : List (Nat × AV)} {h0 : List (Nat × Ob)} {K : Exit → Act → World → Prop}
def Closed (sl : List SOper) (D : Nat → Bool) : Prop := ∀ i o, D i = true → sl[i]? = some o → ∀ e ∈ o.after, D e = true
def Inv (C : Ctx) (sl : List SOper) (rs : List Rec) (n : Nat) (t0 : List (Nat × AV)) (h0 : List (Nat × Ob)) (D : Nat → Bool) (a : Act) (w : World) : Prop :=
  ∃ ρ U, Sim C ρ U (foldG uT (sl.zip rs) D t0) (foldG uH (sl.zip rs) D h0) a w ∧ (∀ b, U b → b < n ∨ ∃ i, D i = true ∧ i < sl.length ∧ n + 8 * i ≤ b ∧ b < n + 8 * i + 8)
theorem noconf_spec {x y : SOper × Foot} (h : noconf x y = true) :
    (∀ d, x.1.dst = some d → d ∉ uses y.1 ∧ y.1.dst ≠ some d) ∧ (∀ d, y.1.dst = some d → d ∉ uses x.1) ∧
      (∀ b ∈ x.2.2, b ∉ y.2.1 ∧ b ∉ y.2.2) ∧ (∀ b ∈ y.2.2, b ∉ x.2.1) := by
  simp only [noconf, Bool.and_eq_true] at h
  obtain ⟨h1, h2, h3, h4, h5⟩ := h
  refine ⟨fun d hd => ?_, fun d hd => ?_, fun b hb => ⟨offB_spec h3 hb, offB_spec h4 hb⟩, fun b hb => offB_spec h5 hb⟩
  · rw [hd] at h1
    simpa using h1
  · rw [hd] at h2
    simpa using h2
structure Meets (sl : List SOper) (rs : List Rec) (D : Nat → Bool) (j : Nat) (o : SOper) (r : Rec) : Prop where
  tr : ∀ k ∈ uses o, ∀ i x, (sl.zip rs)[i]? = some x → k ∈ keys (uT x) → D i = decide (i < j)
  hr : ∀ b ∈ r.rd, ∀ i x, (sl.zip rs)[i]? = some x → b ∈ keys (uH x) → D i = decide (i < j)
  tw : ∀ i y, j < i → D i = true → (sl.zip rs)[i]? = some y → ∀ k ∈ keys (uT (o, r)), k ∉ keys (uT y)
  hw : ∀ i y, j < i → D i = true → (sl.zip rs)[i]? = some y → ∀ k ∈ keys (uH (o, r)), k ∉ keys (uH y)
theorem keys_uT {x : SOper × Rec} {k : Nat} (h : k ∈ keys (uT x)) : x.1.dst = some k := by
  unfold uT keys at h
  split at h
  · rename_i d hd; simp at h; rw [hd, h]
  · simp at h
theorem meets (hlen : rs.length = sl.length) (hok : okDraw sl (rs.map foot) = true) {D : Nat → Bool} (hD : Closed sl D) {j : Nat} {o : SOper} {r : Rec} (ho : sl[j]? = some o) (hr : rs[j]? = some r)
    (hj : D j = false) (hjr : ∀ e ∈ o.after, D e = true) : Meets sl rs D j o r := by
  simp only [okDraw, Bool.and_eq_true] at hok
  have haf := okAfter_spec sl 0 hok.1
  have hp := okPairs_spec _ _ _ 0 hok.2
  have hbef : BefOk (sl.map (·.after)) (befGo [] (sl.map (·.after))) := befGo_ok _ _ [] (by simp) (by simp) (fun j m h => by simp at h)
  have hz : ∀ (i : Nat) (x : SOper × Rec), (sl.zip rs)[i]? = some x → sl[i]? = some x.1 ∧ rs[i]? = some x.2 := fun i x hx => by
    rw [List.getElem?_zip_eq_some] at hx
    exact hx
  have hzf : ∀ (i : Nat) (x : SOper) (r' : Rec), sl[i]? = some x → rs[i]? = some r' → (sl.zip (rs.map foot))[i]? = some (x, foot r') := fun i x r' h1 h2 => by
    rw [List.getElem?_zip_eq_some]
    refine ⟨h1, ?_⟩
    rw [List.getElem?_map, h2]; rfl
  have hDc : ∀ (i : Nat) (af : List Nat), D i = true → (sl.map (·.after))[i]? = some af → ∀ e ∈ af, D e = true := fun i af hi haf => by
    rw [List.getElem?_map] at haf
    cases hs : sl[i]? with
    | none => rw [hs] at haf; simp at haf
    | some x => rw [hs] at haf; simp at haf; subst haf; exact hD i x hi hs
  have hbit : ∀ (i i' : Nat) (x : SOper), sl[i]? = some x → (∀ e ∈ x.after, D e = true) → ((befGo [] (sl.map (·.after))).getD i 0).testBit i' = true → D i' = true := fun i i' x hx hxe hb => by
    rcases Nat.lt_or_ge i (befGo [] (sl.map (·.after))).length with h1 | h1
    · refine hbef i _ (by rw [List.getD_eq_getElem?_getD, List.getElem?_eq_getElem h1]; rfl) D hDc (fun af haf => ?_) i' hb
      rw [List.getElem?_map, hx] at haf
      simp at haf
      subst haf
      exact hxe
    · rw [List.getD_eq_getElem?_getD, List.getElem?_eq_none h1] at hb
      simp at hb
  -- the pairs
  have hlo : ∀ i x, i < j → (sl.zip rs)[i]? = some x → D i = true ∨ noconf (x.1, foot x.2) (o, foot r) = true := fun i x hi hx => by
    obtain ⟨h1, h2⟩ := hz i x hx
    rcases hp j _ (hzf j o r ho hr) i _ (by omega) (hzf i x.1 x.2 h1 h2) with h | h
    · rw [Nat.zero_add] at h
      exact .inl (hbit j i o ho hjr h)
    · exact .inr h
  have hhi : ∀ i x, j < i → D i = true → (sl.zip rs)[i]? = some x → noconf (o, foot r) (x.1, foot x.2) = true := fun i x hi hd hx => by
    obtain ⟨h1, h2⟩ := hz i x hx
    rcases hp i _ (hzf i x.1 x.2 h1 h2) j _ (by omega) (hzf j o r ho hr) with h | h
    · rw [Nat.zero_add] at h
      have := hbit i j x.1 h1 (hD i x.1 hd h1) h
      rw [hj] at this; cases this
    · exact h
  have hcase : ∀ i x, (sl.zip rs)[i]? = some x → (i < j → noconf (x.1, foot x.2) (o, foot r) = true → False) → (j < i → noconf (o, foot r) (x.1, foot x.2) = true → False) → D i = decide (i < j) := fun i x hx h1 h2 => by
    rcases Nat.lt_trichotomy i j with hi | rfl | hi
    · rw [decide_eq_true hi]
      exact (hlo i x hi hx).resolve_right (h1 hi)
    · rw [decide_eq_false (by omega)]; exact hj
    · rw [decide_eq_false (by omega)]
      cases hd : D i with
      | false => rfl
      | true => exact (h2 hi (hhi i x hi hd hx)).elim
  refine ⟨fun k hk i x hx hm => hcase i x hx (fun _ hc => ?_) (fun _ hc => ?_), fun b hb i x hx hm => hcase i x hx (fun _ hc => ?_) (fun _ hc => ?_), fun i y hi hd hy k hk hk' => ?_, fun i y hi hd hy k hk hk' => ?_⟩
  · exact ((noconf_spec hc).1 k (keys_uT hm)).1 hk
  · exact (noconf_spec hc).2.1 k (keys_uT hm) hk
  · exact ((noconf_spec hc).2.2.1 b hm).1 hb
  · exact (noconf_spec hc).2.2.2 b hm hb
  · exact ((noconf_spec (hhi i y hi hd hy)).1 k (keys_uT hk)).2 (keys_uT hk')
  · exact ((noconf_spec (hhi i y hi hd hy)).2.2.1 k hk).2 hk'
theorem stripOps_get {draw : Bool} : ∀ (l : List Oper) (sl : List SOper), stripOps P ops draw l = some sl → l.length = sl.length ∧ ∀ (j : Nat) (o : Oper), l[j]? = some o → ∃ so, sl[j]? = some so ∧ stripOper P ops draw o = some so
  | [], sl, hs => by
    simp only [stripOps, Option.some.injEq] at hs
    subst hs
    exact ⟨rfl, fun j o h => by simp at h⟩
  | o :: l, sl, hs => by
    obtain ⟨so, sl', rfl, h1, h2⟩ := stripOps_cons hs
    obtain ⟨h3, h4⟩ := stripOps_get l sl' h2
    refine ⟨by simp [h3], fun j o' h => ?_⟩
    cases j with
    | zero => simp at h; subst h; exact ⟨so, rfl, h1⟩
    | succ j => simpa using h4 j o' (by simpa using h)
theorem stripOper_after {o : Oper} {so : SOper} (hs : stripOper P ops true o = some so) :
    so.after = o.after.toList.filterMap fun e => match e.ground with | .textOnly _ => none | .gcOnly _ => none | _ => some e.on := by
  unfold stripOper at hs
  split at hs
  · split at hs
    · cases hs; rfl
    · split at hs
      · cases hs; rfl
      · cases hs
  · cases hs
theorem after_iff {o : Oper} {so : SOper} (hs : stripOper P ops true o = some so) (D : Nat → Prop) :
    (∀ e ∈ o.after, Region.binds .any e = true → D e.on) ↔ ∀ i ∈ so.after, D i := by
  rw [stripOper_after hs]
  constructor
  · intro h i hi
    rw [List.mem_filterMap] at hi
    obtain ⟨e, he, h1⟩ := hi
    have hem : e ∈ o.after := by simpa using he
    have : Region.binds .any e = true ∧ e.on = i := by
      unfold Region.binds
      split at h1 <;> simp_all
    rw [← this.2]; exact h e hem this.1
  · intro h e he hb
    refine h e.on ?_
    rw [List.mem_filterMap]
    refine ⟨e, by simpa using he, ?_⟩
    unfold Region.binds at hb
    split at hb <;> simp_all
theorem okDst_get : ∀ (sl : List SOper) {nt : Nat}, okDst nt sl = true → ∀ (j : Nat) (o : SOper), sl[j]? = some o → ∀ d, o.dst = some d → d < nt
  | [], _, _, j, o, h => by simp at h
  | o :: l, nt, h, j, o', h' => by
    simp only [okDst, Bool.and_eq_true] at h
    cases j with
    | zero =>
      simp at h'; subst h'
      intro d hd
      have := h.1
      rw [hd] at this
      simpa using this
    | succ j => exact okDst_get l h.2 j o' (by simpa using h')
theorem inv_step (hs : stripOps P ops true ops.toList = some sl) (hdst : okDst C.nt sl = true) (hlen : rs.length = sl.length) (hok : okDraw sl (rs.map foot) = true)
    (hst : ∀ j o r, sl[j]? = some o → rs[j]? = some r → StepD P (n + 8 * j) o (foldG uT (sl.zip rs) (fun i => decide (i < j)) t0) (foldG uH (sl.zip rs) (fun i => decide (i < j)) h0) r)
    {D : Nat → Bool} (hD : Closed sl D) {j : Nat} {o : Oper} {so : SOper} (ho : ops[j]? = some o) (hso : sl[j]? = some so) (hs1 : stripOper P ops true o = some so) (hj : D j = false) (hjr : ∀ e ∈ so.after, D e = true)
    {a : Act} {w : World} (hI : Inv C sl rs n t0 h0 D a w) {next : Act → World → Prop} (hn : ∀ a w, Inv C sl rs n t0 h0 (setD D j) a w → next a w) :
    wpOp P ops K j next a w := by
  obtain ⟨r, hr⟩ : ∃ r, rs[j]? = some r := by
    have : j < rs.length := by rw [hlen]; exact (List.getElem?_eq_some_iff.1 hso).1
    exact ⟨_, List.getElem?_eq_getElem this⟩
  have hz : (sl.zip rs)[j]? = some (so, r) := by rw [List.getElem?_zip_eq_some]; exact ⟨hso, hr⟩
  have hm := meets hlen hok hD hso hr hj hjr
  obtain ⟨h1, h2, h3, h4⟩ := stripOper_some hs1
  obtain ⟨ρ, U, hS, hU⟩ := hI
  have hrt : ∀ k ∈ uses so, get (foldG uT (sl.zip rs) D t0) k = get (foldG uT (sl.zip rs) (fun i => decide (i < j)) t0) k := fun k hk =>
    foldG_read _ _ _ _ _ k rfl fun i x hx hm' => hm.tr k hk i x hx hm'
  have hrh : ∀ b ∈ r.rd, get (foldG uH (sl.zip rs) D h0) b = get (foldG uH (sl.zip rs) (fun i => decide (i < j)) h0) b := fun b hb =>
    foldG_read _ _ _ _ _ b rfl fun i x hx hm' => hm.hr b hb i x hx hm'
  have hdj : ∀ d, o.dst = some d → d < C.nt := fun d hd => okDst_get sl hdst j so hso d (by rw [h2]; exact hd)
  have hend : ∀ a' w' ρ' U', Sim C ρ' U' (putA (foldG uT (sl.zip rs) D t0) so.dst r.val) (r.upd ++ foldG uH (sl.zip rs) D h0) a' w' → (∀ b, U' b → U b ∨ (n + 8 * j ≤ b ∧ b < n + 8 * j + 8)) → next a' w' :=
    fun a' w' ρ' U' hS' hU' => hn a' w' ⟨ρ', U', hS'.ext (fun k => by rw [putA_eq]; exact foldG_insert hz hj hm.tw k) (fun b => foldG_insert hz hj hm.hw b), fun b hb => by
      rcases hU' b hb with h | h
      · rcases hU b h with h | ⟨i, hi, h⟩
        · exact .inl h
        · exact .inr ⟨i, by simp [setD, hi], h⟩
      · exact .inr ⟨j, by simp [setD], (List.getElem?_eq_some_iff.1 hso).1, h⟩⟩
  have hfr : ∀ b, U b → ¬ (n + 8 * j ≤ b ∧ b < n + 8 * j + 8) := fun b hb hh => by
    rcases hU b hb with h | ⟨i, hi, h⟩
    · omega
    · have : i = j := by omega
      subst this
      rw [hj] at hi; cases hi
  have hact : ActD P (n + 8 * j) so (foldG uT (sl.zip rs) (fun i => decide (i < j)) t0) (foldG uH (sl.zip rs) (fun i => decide (i < j)) h0) r →
      (∀ k ∈ tmpsO (opnds so.op), k ∈ uses so) → o.wp P a w next K := fun hA hu => by
    have := hA _ _ (fun k hk => hrt k (hu k hk)) hrh (fun t' h' => t' = putA (foldG uT (sl.zip rs) D t0) so.dst r.val ∧ h' = r.upd ++ foldG uH (sl.zip rs) D h0) ⟨rfl, rfl⟩
    obtain ⟨dst, op, gd, af⟩ := so
    simp only at h1 h2
    subst h2
    refine wpOper_sound h1 hS hfr hdj this fun t' h' a' w' ρ' U' hS' hU' hQ => ?_
    obtain ⟨rfl, rfl⟩ := hQ
    exact hend a' w' ρ' U' hS' hU'
  have hskip : r = Rec.skip → next (a.put o.dst undef) w := fun e => by
    refine hend _ _ ρ U ?_ fun b hb => .inl hb
    subst e
    have := hS.skip (dst := o.dst) hdj
    rw [h2]
    exact this
  unfold wpOp
  rw [ho]
  simp only
  rcases hst j so r hso hr with ⟨hg, hA⟩ | ⟨g, want, hg, hh⟩
  · have hg' := h3.1 hg
    have : Region.wanted o (yielded ops a.tmps) = true := by simp [Region.wanted, hg']
    rw [if_pos this]
    exact .inl (hact hA (fun k hk => by unfold uses; rw [hg]; exact hk))
  · obtain ⟨j', hj', hjd⟩ := h4 g want hg
    have hgu : g ∈ uses so := by unfold uses; rw [hg]; exact List.mem_cons_self ..
    have hgt := hrt g hgu
    rcases hh with ⟨hb, hA⟩ | ⟨e, hb | ⟨xs, hb⟩⟩
    · rw [hb] at hgt
      obtain ⟨u, hu, hv⟩ := hS.tm g _ hgt
      have := hv.v_inv
      subst this
      rw [wanted_bool hj' hjd hu]
      simp only [beq_self_eq_true, if_true]
      exact .inl (hact hA (fun k hk => by unfold uses; rw [hg]; exact List.mem_cons_of_mem _ hk))
    · rw [hb] at hgt
      obtain ⟨u, hu, hv⟩ := hS.tm g _ hgt
      have := hv.v_inv
      subst this
      rw [wanted_bool hj' hjd hu]
      have : ((!want) == want) = false := by cases want <;> rfl
      rw [this]
      exact hskip e
    · rw [hb] at hgt
      obtain ⟨u, hu, hv⟩ := hS.tm g _ hgt
      have := hv.v_inv
      subst this
      rw [wanted_tuple hj' hjd hu]
      exact hskip e
theorem countP_same {D : Nat → Bool} {j : Nat} : ∀ (l : List Nat), j ∉ l → l.countP (fun i => !(setD D j i)) = l.countP (fun i => !(D i))
  | [], _ => rfl
  | x :: l, h => by
    simp only [List.mem_cons, not_or] at h
    have e : setD D j x = D x := by simp [setD, Ne.symm h.1]
    rw [List.countP_cons, List.countP_cons, countP_same l h.2, e]
theorem countP_setD {D : Nat → Bool} {j : Nat} (hj : D j = false) : ∀ (l : List Nat), l.Nodup → j ∈ l → l.countP (fun i => !(setD D j i)) + 1 = l.countP (fun i => !(D i))
  | [], _, h => by simp at h
  | x :: l, hn, h => by
    rw [List.nodup_cons] at hn
    rcases List.mem_cons.1 h with rfl | h
    · rw [List.countP_cons, List.countP_cons, countP_same l hn.1]
      simp [setD, hj]
    · have hx : x ≠ j := fun e => hn.1 (e ▸ h)
      have e : setD D j x = D x := by simp [setD, hx]
      have := countP_setD hj l hn.2 h
      rw [List.countP_cons, List.countP_cons, e]
      omega
def ofL (listed : Array Bool) : Nat → Bool := fun i => listed.getD i false
theorem ofL_set {listed : Array Bool} {j : Nat} (hj : j < listed.size) : ofL (listed.setIfInBounds j true) = setD (ofL listed) j := by
  funext i
  unfold ofL setD
  by_cases e : i = j
  · subst e; simp [hj]
  · rw [getD_set_ne false (Ne.symm e)]
    have : (i == j) = false := by simp [e]
    rw [this, Bool.or_false]
theorem getD_true_false {listed : Array Bool} {j : Nat} (hj : j < listed.size) : listed.getD j true = listed.getD j false := by
  simp [hj]
theorem wpAny_inv (hs : stripOps P ops true ops.toList = some sl) (hdst : okDst C.nt sl = true) (hlen : rs.length = sl.length) (hok : okDraw sl (rs.map foot) = true)
    (hst : ∀ j o r, sl[j]? = some o → rs[j]? = some r → StepD P (n + 8 * j) o (foldG uT (sl.zip rs) (fun i => decide (i < j)) t0) (foldG uH (sl.zip rs) (fun i => decide (i < j)) h0) r)
    (hend : ∀ D a w, (∀ i, i < ops.size → D i = true) → Inv C sl rs n t0 h0 D a w → K .normal a w) :
    ∀ (fuel : Nat) (listed : Array Bool) (a : Act) (w : World), listed.size = ops.size → Closed sl (ofL listed) → (List.range ops.size).countP (fun i => !(ofL listed i)) ≤ fuel →
      Inv C sl rs n t0 h0 (ofL listed) a w → wpAny P .any ops K fuel listed a w := by
  obtain ⟨hl, hget⟩ := stripOps_get ops.toList sl hs
  have hokA : okAfter 0 sl = true := by
    simp only [okDraw, Bool.and_eq_true] at hok
    exact hok.1
  have hready : ∀ (listed : Array Bool) (j : Nat) (o : Oper) (so : SOper), listed.size = ops.size → ops[j]? = some o → sl[j]? = some so → stripOper P ops true o = some so → ofL listed j = false →
      (∀ e ∈ so.after, ofL listed e = true) → j ∈ Region.ready .any ops listed := fun listed j o so hsz ho hso h1 hj he => by
    have hlt : j < ops.size := (Array.getElem?_eq_some_iff.1 ho).1
    rw [mem_ready]
    refine ⟨by rw [getD_true_false (by omega)]; exact hj, o, ho, ?_⟩
    exact (after_iff h1 fun i => ofL listed i = true).2 he
  -- with nothing ready all is done
  have hall : ∀ (listed : Array Bool), listed.size = ops.size → Region.ready .any ops listed = [] → ∀ i, i < ops.size → ofL listed i = true := fun listed hsz hr i => by
    induction i using Nat.strongRecOn with
    | _ i ih =>
      intro hi
      apply Classical.byContradiction
      intro hne
      have hne' : ofL listed i = false := by simpa using hne
      obtain ⟨so, hso, h1⟩ := hget i ops[i] (by simp [hi])
      have := hready listed i ops[i] so hsz (by simp [hi]) hso h1 hne' fun e he => by
        have := okAfter_spec sl 0 hokA i so hso e he
        exact ih e (by omega) (by omega)
      rw [hr] at this
      simp at this
  intro fuel
  induction fuel with
  | zero =>
    intro listed a w hsz hc hf hI
    have hdone : ∀ i, i < ops.size → ofL listed i = true := fun i hi => by
      have h0 : (List.range ops.size).countP (fun i => !(ofL listed i)) = 0 := by omega
      rw [List.countP_eq_zero] at h0
      have := h0 i (by simpa using hi)
      simpa using this
    refine ⟨?_, hend _ a w hdone hI⟩
    apply List.eq_nil_iff_forall_not_mem.2
    intro j hj
    rw [mem_ready] at hj
    obtain ⟨h1, o, ho, _⟩ := hj
    have hlt : j < ops.size := (Array.getElem?_eq_some_iff.1 ho).1
    rw [getD_true_false (by omega)] at h1
    have := hdone j hlt
    unfold ofL at this
    rw [h1] at this; cases this
  | succ fuel ih =>
    intro listed a w hsz hc hf hI
    refine ⟨fun hr => hend _ a w (hall listed hsz hr) hI, fun j hj => ?_⟩
    rw [mem_ready] at hj
    obtain ⟨h1, o, ho, hb⟩ := hj
    have hlt : j < ops.size := (Array.getElem?_eq_some_iff.1 ho).1
    obtain ⟨so, hso, hs1⟩ := hget j o (by simpa using ho)
    have hjr := (after_iff hs1 fun i => ofL listed i = true).1 hb
    have hj0 : ofL listed j = false := by rw [getD_true_false (by omega)] at h1; exact h1
    refine inv_step hs hdst hlen hok hst hc ho hso hs1 hj0 hjr hI fun a' w' hI' => ?_
    have e := ofL_set (listed := listed) (j := j) (by omega)
    refine ih _ a' w' (by simp [hsz]) ?_ ?_ (by rw [e]; exact hI')
    · rw [e]
      intro i o' hi ho' x hx
      unfold setD at hi
      simp only [Bool.or_eq_true, beq_iff_eq] at hi
      rcases hi with hi | rfl
      · simp [setD, hc i o' hi ho' x hx]
      · rw [hso] at ho'; cases ho'
        simp [setD, hjr x hx]
    · rw [e]
      have := countP_setD hj0 (List.range ops.size) List.nodup_range (by simpa using hlt)
      omega
theorem Sim.world {ρ : Nat → Loc} {U : Nat → Prop} {t : List (Nat × AV)} {h : List (Nat × Ob)} {a : Act} {w w' : World} (hS : Sim C ρ U t h a w) (e1 : w'.heap = w.heap) (e2 : w'.os = w.os)
    (e3 : w'.tape = w.tape) (e4 : w'.output = w.output) : Sim C ρ U t h a w' := by
  obtain ⟨h1, h2⟩ := hS.hr.world e1 e2 e3 e4
  refine ⟨h1, fun k x hk => ?_, hS.defers, hS.sz⟩
  obtain ⟨u, hu, hv⟩ := hS.tm k x hk
  exact ⟨u, hu, h2 _ _ hv⟩
theorem wpDraw_sound (hm : P.follows .mixedOrders = true) (hs : stripOps P ops true ops.toList = some sl) (hdst : okDst C.nt sl = true) {ρ : Nat → Loc} {U : Nat → Prop} {a : Act} {w : World}
    (hS : Sim C ρ U t0 h0 a w) (hU : ∀ b, U b → b < n) {Q : List (Nat × AV) → List (Nat × Ob) → Prop} (hw : wpDraw P n sl t0 h0 Q) {id : Nat}
    (hend : ∀ t h a' w' ρ' U', Sim C ρ' U' t h a' w' → (∀ b, U' b → b < n + 8 * sl.length) → Q t h → K .normal a' w') : (Code.region id ops true).wp P K a w := by
  obtain ⟨rs, hlen, ⟨hok, hQ⟩, hst⟩ := wpDrawL_spec sl n [] t0 h0 _ hw
  simp only [List.append_nil, List.reverse_reverse] at hok
  have hl := (stripOps_get ops.toList sl hs).1
  simp only [Array.length_toList] at hl
  have hD0 : ofL (Array.replicate ops.size false) = fun _ => false := by
    funext i
    unfold ofL
    rcases Nat.lt_or_ge i ops.size with h | h <;> simp [h]
  refine wp_region_any hm (wpAny_inv (n := n) (t0 := t0) (h0 := h0) hs hdst hlen hok hst ?_ ops.size _ a _ (by simp) ?_ ?_ ?_)
  · intro D a' w' hD hI
    obtain ⟨ρ', U', hS', hU'⟩ := hI
    have hz : ∀ i (x : SOper × Rec), (sl.zip rs)[i]? = some x → D i = true := fun i x hx => hD i (by
      rw [List.getElem?_zip_eq_some] at hx
      have := (List.getElem?_eq_some_iff.1 hx.1).1
      omega)
    refine hend _ _ a' w' ρ' U' (hS'.ext (fun k => ?_) (fun b => ?_)) (fun b hb => ?_) hQ
    · exact foldG_read _ _ _ _ _ k rfl fun i x hx _ => (hz i x hx).symm
    · exact foldG_read _ _ _ _ _ b rfl fun i x hx _ => (hz i x hx).symm
    · rcases hU' b hb with h | ⟨i, hi, h⟩
      · omega
      · omega
  · rw [hD0]; intro i o hi; cases hi
  · exact Nat.le_trans List.countP_le_length (by simp)
  · rw [hD0]
    exact ⟨ρ, U, by rw [foldG_none, foldG_none]; exact hS.world rfl rfl rfl rfl, fun b hb => .inl (hU b hb)⟩
end draw
end Go.Eng
