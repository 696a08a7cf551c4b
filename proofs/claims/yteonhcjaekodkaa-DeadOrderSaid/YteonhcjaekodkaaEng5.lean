/-
  The engine, part 5: the walk as rewriting: what is left to do is data (a stack), so that simp runs the code forward and never looks into what comes later.
  No condition: definitions and their equations.
-/
import Derived.Test.YteonhcjaekodkaaEng4
set_option linter.all false
namespace Go.Eng
open Go

inductive It where
  | ops (nm n : Nat) (l : List SOper)
  | code (c : SCode)
  | blk (id : Nat)
  | lp (B : St → Prop)
  | drw (nm n : Nat) (l ops : List SOper) (acc : List Foot)

def goN (P : Program) (Q : Exit → St → Prop) : List It → St → Prop
  | [] => Q .normal
  | .ops nm n l :: k => fun s => wpOps P nm l s.t s.h fun t h => goN P Q k ⟨n, t, h⟩
  | .code c :: k => fun s => wpc P c (fun e s' => match e with
      | .normal => goN P Q k s'
      | .exit id => goX P Q id k s'
      | e => Q e s') s
  | .blk _ :: k => goN P Q k
  | .lp B :: _ => B
  | .drw nm n l ops acc :: k => fun s => wpDrawL P nm l acc s.t s.h fun acc t h => okDraw ops acc.reverse = true ∧ goN P Q k ⟨n, t, h⟩
where
  goX (P : Program) (Q : Exit → St → Prop) (id : Nat) : List It → St → Prop
  | [] => Q (.exit id)
  | .blk i :: k => if i = id then goN P Q k else goX P Q id k
  | .ops .. :: k => goX P Q id k
  | .code _ :: k => goX P Q id k
  | .lp _ :: k => goX P Q id k
  | .drw .. :: k => goX P Q id k

def go (P : Program) (k : List It) (Q : Exit → St → Prop) (n : Nat) (t : List (Nat × AV)) (h : List (Nat × Ob)) : Prop := goN P Q k ⟨n, t, h⟩

def goX (P : Program) (id : Nat) (k : List It) (Q : Exit → St → Prop) (n : Nat) (t : List (Nat × AV)) (h : List (Nat × Ob)) : Prop := goN.goX P Q id k ⟨n, t, h⟩

def goIf (P : Program) (c : Option AV) (x y : SCode) (k : List It) (Q : Exit → St → Prop) (n : Nat) (t : List (Nat × AV)) (h : List (Nat × Ob)) : Prop :=
  onG c (fun b => Split b (go P (.code x :: k) Q n t h) (go P (.code y :: k) Q n t h)) False

def goE (P : Program) (e : Option E) (op : SOp) (d : Option Nat) (nm n' : Nat) (l : List SOper) (k : List It) (Q : Exit → St → Prop) (n : Nat) (t : List (Nat × AV)) (h : List (Nat × Ob)) : Prop :=
  onW nm t h op e fun t h e => go P (.ops (nm + 8) n' l :: k) Q n (putA t d e.val) (e.upd ++ h)

def goCall (P : Program) (nm : Nat) (f : FuncId) (args : List AV) (d : Option Nat) (n' : Nat) (l : List SOper) (k : List It) (Q : Exit → St → Prop) (n : Nat) (t : List (Nat × AV)) (h : List (Nat × Ob)) : Prop :=
  wpCall P nm f args h fun r h' => go P (.ops (nm + 8) n' l :: k) Q n (putA t d r) h'

def goC (P : Program) (f : Option AV) (args : Option (List AV)) (d : Option Nat) (nm n' : Nat) (l : List SOper) (k : List It) (Q : Exit → St → Prop) (n : Nat) (t : List (Nat × AV)) (h : List (Nat × Ob)) : Prop :=
  onF f args fun g xs => goCall P nm g xs d n' l k Q n t h

def goNil (P : Program) (x : Option (Option Bool)) (neg : Bool) (d : Option Nat) (nm n' : Nat) (l : List SOper) (k : List It) (Q : Exit → St → Prop) (n : Nat) (t : List (Nat × AV)) (h : List (Nat × Ob)) : Prop :=
  onNil x fun b => go P (.ops (nm + 8) n' l :: k) Q n (putA t d (.v (.bool (if neg then !b else b)))) h

def goG (P : Program) (c : Option AV) (o : SOper) (w : Bool) (nm n' : Nat) (l : List SOper) (k : List It) (Q : Exit → St → Prop) (n : Nat) (t : List (Nat × AV)) (h : List (Nat × Ob)) : Prop :=
  onG c (fun b => Split b
      (bif w then go P (.ops nm n' ({ o with guard := none } :: l) :: k) Q n t h else go P (.ops (nm + 8) n' l :: k) Q n (putA t o.dst (.v undef)) h)
      (bif w then go P (.ops (nm + 8) n' l :: k) Q n (putA t o.dst (.v undef)) h else go P (.ops nm n' ({ o with guard := none } :: l) :: k) Q n t h))
    (go P (.ops (nm + 8) n' l :: k) Q n (putA t o.dst (.v undef)) h)

def goED (P : Program) (e : Option E) (rd : List Nat) (d : Option Nat) (nm n' : Nat) (l ops : List SOper) (acc : List Foot) (k : List It) (Q : Exit → St → Prop) (n : Nat) (t : List (Nat × AV)) (h : List (Nat × Ob)) : Prop :=
  onE e fun e => go P (.drw (nm + 8) n' l ops ((rd, e.upd.map Prod.fst) :: acc) :: k) Q n (putA t d e.val) (e.upd ++ h)

def goCallD (P : Program) (nm : Nat) (f : FuncId) (args : List AV) (d : Option Nat) (n' : Nat) (l ops : List SOper) (acc : List Foot) (k : List It) (Q : Exit → St → Prop) (n : Nat) (t : List (Nat × AV)) (h : List (Nat × Ob)) : Prop :=
  ∃ r, CallD P nm f args h r ∧ go P (.drw (nm + 8) n' l ops ((r.rd, r.upd.map Prod.fst) :: acc) :: k) Q n (putA t d r.val) (r.upd ++ h)

def goCD (P : Program) (f : Option AV) (args : Option (List AV)) (d : Option Nat) (nm n' : Nat) (l ops : List SOper) (acc : List Foot) (k : List It) (Q : Exit → St → Prop) (n : Nat) (t : List (Nat × AV)) (h : List (Nat × Ob)) : Prop :=
  onF f args fun g xs => goCallD P nm g xs d n' l ops acc k Q n t h

def goNilD (P : Program) (x : Option (Option Bool)) (neg : Bool) (d : Option Nat) (nm n' : Nat) (l ops : List SOper) (acc : List Foot) (k : List It) (Q : Exit → St → Prop) (n : Nat) (t : List (Nat × AV)) (h : List (Nat × Ob)) : Prop :=
  onNilD x fun b => go P (.drw (nm + 8) n' l ops (([], []) :: acc) :: k) Q n (putA t d (.v (.bool (if neg then !b else b)))) h

def goGD (P : Program) (c : Option AV) (o : SOper) (w : Bool) (nm n' : Nat) (l ops : List SOper) (acc : List Foot) (k : List It) (Q : Exit → St → Prop) (n : Nat) (t : List (Nat × AV)) (h : List (Nat × Ob)) : Prop :=
  onG c (fun b => Split b
      (bif w then go P (.drw nm n' ({ o with guard := none } :: l) ops acc :: k) Q n t h else go P (.drw (nm + 8) n' l ops (([], []) :: acc) :: k) Q n (putA t o.dst (.v undef)) h)
      (bif w then go P (.drw (nm + 8) n' l ops (([], []) :: acc) :: k) Q n (putA t o.dst (.v undef)) h else go P (.drw nm n' ({ o with guard := none } :: l) ops acc :: k) Q n t h))
    (go P (.drw (nm + 8) n' l ops (([], []) :: acc) :: k) Q n (putA t o.dst (.v undef)) h)

section eqs
variable {P : Program} {k : List It} {Q : Exit → St → Prop} {n : Nat} {t : List (Nat × AV)} {h : List (Nat × Ob)}

theorem go_nil : go P [] Q n t h = Q .normal ⟨n, t, h⟩ := (rfl)
theorem go_seq (a b : SCode) : go P (.code (.seq a b) :: k) Q n t h = go P (.code a :: .code b :: k) Q n t h := by
  simp only [go, goN, wpc]
  congr 1
  funext e s
  cases e <;> rfl
theorem go_skip : go P (.code .skip :: k) Q n t h = go P k Q n t h := (rfl)
theorem go_exit (id : Nat) : go P (.code (.exit id) :: k) Q n t h = goX P id k Q n t h := (rfl)
theorem go_ret : go P (.code .ret :: k) Q n t h = Q .ret ⟨n, t, h⟩ := (rfl)
theorem go_blk (id : Nat) : go P (.blk id :: k) Q n t h = go P k Q n t h := (rfl)
theorem go_lp (B : St → Prop) : go P (.lp B :: k) Q n t h = B ⟨n, t, h⟩ := (rfl)
theorem goX_blk (id i : Nat) : goX P id (.blk i :: k) Q n t h = if i = id then go P k Q n t h else goX P id k Q n t h := by
  simp only [goX, goN.goX, go]; split <;> rfl
theorem goX_ops (id nm n' : Nat) (l : List SOper) : goX P id (.ops nm n' l :: k) Q n t h = goX P id k Q n t h := (rfl)
theorem goX_code (id : Nat) (c : SCode) : goX P id (.code c :: k) Q n t h = goX P id k Q n t h := (rfl)
theorem goX_lp (id : Nat) (B : St → Prop) : goX P id (.lp B :: k) Q n t h = goX P id k Q n t h := (rfl)
theorem go_block (id : Nat) (c : SCode) : go P (.code (.block id c) :: k) Q n t h = go P (.code c :: .blk id :: k) Q n t h := by
  simp only [go, goN, wpc]
  congr 1
  funext e s
  cases e <;> try rfl
  rename_i i
  simp only [blockK, goN.goX]
  by_cases hi : i = id
  · simp [hi]
  · have : ¬ id = i := fun h => hi h.symm
    simp [hi, this]
theorem go_region (ops : List SOper) : go P (.code (.region ops false) :: k) Q n t h = go P (.ops n (n + 8 * ops.length) ops :: k) Q n t h := by
  simp [go, goN, wpc]
theorem go_cond (c : Operand) (x y : SCode) : go P (.code (.cond c x y) :: k) Q n t h = goIf P (ev t c) x y k Q n t h := (rfl)
theorem goIf_true (x y : SCode) : goIf P (some (.v (.bool true))) x y k Q n t h = go P (.code x :: k) Q n t h := by simp [goIf, onG_bool, Split_true]
theorem goIf_false (x y : SCode) : goIf P (some (.v (.bool false))) x y k Q n t h = go P (.code y :: k) Q n t h := by simp [goIf, onG_bool, Split_false]
theorem goIf_split {b : Bool} {x y : SCode} (h1 : b = true → go P (.code x :: k) Q n t h) (h2 : b = false → go P (.code y :: k) Q n t h) : goIf P (some (.v (.bool b))) x y k Q n t h := ⟨h1, h2⟩
theorem go_ops_nil (nm n' : Nat) : go P (.ops nm n' [] :: k) Q n t h = go P k Q n' t h := (rfl)

theorem go_mov (d : Option Nat) (x : Operand) (af : List Nat) (nm n' : Nat) (l : List SOper) : go P (.ops nm n' (⟨d, .mov x, none, af⟩ :: l) :: k) Q n t h = goE P (eff nm t h (.mov x)) (.mov x) d nm n' l k Q n t h := (rfl)
theorem go_pick (d : Option Nat) (c a b : Operand) (af : List Nat) (nm n' : Nat) (l : List SOper) : go P (.ops nm n' (⟨d, .pick c a b, none, af⟩ :: l) :: k) Q n t h = goE P (eff nm t h (.pick c a b)) (.pick c a b) d nm n' l k Q n t h := (rfl)
theorem go_alloc (d : Option Nat) (zs : List Value) (af : List Nat) (nm n' : Nat) (l : List SOper) : go P (.ops nm n' (⟨d, .alloc zs, none, af⟩ :: l) :: k) Q n t h = goE P (eff nm t h (.alloc zs)) (.alloc zs) d nm n' l k Q n t h := (rfl)
theorem go_box (d : Option Nat) (x : Operand) (af : List Nat) (nm n' : Nat) (l : List SOper) : go P (.ops nm n' (⟨d, .box x, none, af⟩ :: l) :: k) Q n t h = goE P (eff nm t h (.box x)) (.box x) d nm n' l k Q n t h := (rfl)
theorem go_build (d : Option Nat) (zs : List Value) (parts : List (Nat × Nat × Operand)) (af : List Nat) (nm n' : Nat) (l : List SOper) : go P (.ops nm n' (⟨d, .build zs parts, none, af⟩ :: l) :: k) Q n t h = goE P (eff nm t h (.build zs parts)) (.build zs parts) d nm n' l k Q n t h := (rfl)
theorem go_bslice (d : Option Nat) (e : TypeId) (sz : Nat) (zs : List Value) (len : Nat) (parts : List (Nat × Operand)) (af : List Nat) (nm n' : Nat) (l : List SOper) : go P (.ops nm n' (⟨d, .bslice e sz zs len parts, none, af⟩ :: l) :: k) Q n t h = goE P (eff nm t h (.bslice e sz zs len parts)) (.bslice e sz zs len parts) d nm n' l k Q n t h := (rfl)
theorem go_load (d : Option Nat) (ag : Bool) (sz : Nat) (x : Operand) (af : List Nat) (nm n' : Nat) (l : List SOper) : go P (.ops nm n' (⟨d, .load ag sz x, none, af⟩ :: l) :: k) Q n t h = goE P (eff nm t h (.load ag sz x)) (.load ag sz x) d nm n' l k Q n t h := (rfl)
theorem go_store (d : Option Nat) (sz : Nat) (x y : Operand) (af : List Nat) (nm n' : Nat) (l : List SOper) : go P (.ops nm n' (⟨d, .store sz x y, none, af⟩ :: l) :: k) Q n t h = goE P (eff nm t h (.store sz x y)) (.store sz x y) d nm n' l k Q n t h := (rfl)
theorem go_nilc (d : Option Nat) (x : Operand) (af : List Nat) (nm n' : Nat) (l : List SOper) : go P (.ops nm n' (⟨d, .nilc x, none, af⟩ :: l) :: k) Q n t h = goE P (eff nm t h (.nilc x)) (.nilc x) d nm n' l k Q n t h := (rfl)
theorem go_bin (d : Option Nat) (op : BinOp) (x y : Operand) (af : List Nat) (nm n' : Nat) (l : List SOper) : go P (.ops nm n' (⟨d, .bin op x y, none, af⟩ :: l) :: k) Q n t h = goE P (eff nm t h (.bin op x y)) (.bin op x y) d nm n' l k Q n t h := (rfl)
theorem go_eqs (d : Option Nat) (neg : Bool) (ks : List Nat) (x y : Operand) (af : List Nat) (nm n' : Nat) (l : List SOper) : go P (.ops nm n' (⟨d, .eqs neg ks x y, none, af⟩ :: l) :: k) Q n t h = goE P (eff nm t h (.eqs neg ks x y)) (.eqs neg ks x y) d nm n' l k Q n t h := (rfl)
theorem go_un (d : Option Nat) (op : UnOp) (x : Operand) (af : List Nat) (nm n' : Nat) (l : List SOper) : go P (.ops nm n' (⟨d, .un op x, none, af⟩ :: l) :: k) Q n t h = goE P (eff nm t h (.un op x)) (.un op x) d nm n' l k Q n t h := (rfl)
theorem go_conv (d : Option Nat) (q : IntKind) (x : Operand) (af : List Nat) (nm n' : Nat) (l : List SOper) : go P (.ops nm n' (⟨d, .conv q x, none, af⟩ :: l) :: k) Q n t h = goE P (eff nm t h (.conv q x)) (.conv q x) d nm n' l k Q n t h := (rfl)
theorem go_s2b (d : Option Nat) (e : TypeId) (x : Operand) (af : List Nat) (nm n' : Nat) (l : List SOper) : go P (.ops nm n' (⟨d, .s2b e x, none, af⟩ :: l) :: k) Q n t h = goE P (eff nm t h (.s2b e x)) (.s2b e x) d nm n' l k Q n t h := (rfl)
theorem go_b2s (d : Option Nat) (x : Operand) (af : List Nat) (nm n' : Nat) (l : List SOper) : go P (.ops nm n' (⟨d, .b2s x, none, af⟩ :: l) :: k) Q n t h = goE P (eff nm t h (.b2s x)) (.b2s x) d nm n' l k Q n t h := (rfl)
theorem go_mkfn (d : Option Nat) (f : FuncId) (caps : List Operand) (af : List Nat) (nm n' : Nat) (l : List SOper) : go P (.ops nm n' (⟨d, .mkfn f caps, none, af⟩ :: l) :: k) Q n t h = goE P (eff nm t h (.mkfn f caps)) (.mkfn f caps) d nm n' l k Q n t h := (rfl)
theorem go_mkmap (d : Option Nat)  (af : List Nat) (nm n' : Nat) (l : List SOper) : go P (.ops nm n' (⟨d, .mkmap, none, af⟩ :: l) :: k) Q n t h = goE P (eff nm t h (.mkmap)) (.mkmap) d nm n' l k Q n t h := (rfl)
theorem go_look (d : Option Nat) (z : Value) (m x : Operand) (af : List Nat) (nm n' : Nat) (l : List SOper) : go P (.ops nm n' (⟨d, .look z m x, none, af⟩ :: l) :: k) Q n t h = goE P (eff nm t h (.look z m x)) (.look z m x) d nm n' l k Q n t h := (rfl)
theorem go_mput (d : Option Nat) (m x y : Operand) (af : List Nat) (nm n' : Nat) (l : List SOper) : go P (.ops nm n' (⟨d, .mput m x y, none, af⟩ :: l) :: k) Q n t h = goE P (eff nm t h (.mput m x y)) (.mput m x y) d nm n' l k Q n t h := (rfl)
theorem go_mkslice (d : Option Nat) (e : TypeId) (sz bytes : Nat) (zs : List Value) (a c : Operand) (af : List Nat) (nm n' : Nat) (l : List SOper) : go P (.ops nm n' (⟨d, .mkslice e sz bytes zs a c, none, af⟩ :: l) :: k) Q n t h = goE P (eff nm t h (.mkslice e sz bytes zs a c)) (.mkslice e sz bytes zs a c) d nm n' l k Q n t h := (rfl)
theorem go_slice (d : Option Nat) (sz : Nat) (x : Operand) (lo hi mx : Option Operand) (af : List Nat) (nm n' : Nat) (l : List SOper) : go P (.ops nm n' (⟨d, .slice sz x lo hi mx, none, af⟩ :: l) :: k) Q n t h = goE P (eff nm t h (.slice sz x lo hi mx)) (.slice sz x lo hi mx) d nm n' l k Q n t h := (rfl)
theorem go_sslice (d : Option Nat) (x : Operand) (lo hi : Option Operand) (af : List Nat) (nm n' : Nat) (l : List SOper) : go P (.ops nm n' (⟨d, .sslice x lo hi, none, af⟩ :: l) :: k) Q n t h = goE P (eff nm t h (.sslice x lo hi)) (.sslice x lo hi) d nm n' l k Q n t h := (rfl)
theorem go_faddr (d : Option Nat) (off : Nat) (x : Operand) (af : List Nat) (nm n' : Nat) (l : List SOper) : go P (.ops nm n' (⟨d, .faddr off x, none, af⟩ :: l) :: k) Q n t h = goE P (eff nm t h (.faddr off x)) (.faddr off x) d nm n' l k Q n t h := (rfl)
theorem go_fld (d : Option Nat) (ag : Bool) (off sz : Nat) (x : Operand) (af : List Nat) (nm n' : Nat) (l : List SOper) : go P (.ops nm n' (⟨d, .fld ag off sz x, none, af⟩ :: l) :: k) Q n t h = goE P (eff nm t h (.fld ag off sz x)) (.fld ag off sz x) d nm n' l k Q n t h := (rfl)
theorem go_iaddr (d : Option Nat) (sz : Nat) (x i : Operand) (af : List Nat) (nm n' : Nat) (l : List SOper) : go P (.ops nm n' (⟨d, .iaddr sz x i, none, af⟩ :: l) :: k) Q n t h = goE P (eff nm t h (.iaddr sz x i)) (.iaddr sz x i) d nm n' l k Q n t h := (rfl)
theorem go_iaddrA (d : Option Nat) (len sz : Nat) (x i : Operand) (af : List Nat) (nm n' : Nat) (l : List SOper) : go P (.ops nm n' (⟨d, .iaddrA len sz x i, none, af⟩ :: l) :: k) Q n t h = goE P (eff nm t h (.iaddrA len sz x i)) (.iaddrA len sz x i) d nm n' l k Q n t h := (rfl)
theorem go_idx (d : Option Nat) (ag : Bool) (len sz : Nat) (x i : Operand) (af : List Nat) (nm n' : Nat) (l : List SOper) : go P (.ops nm n' (⟨d, .idx ag len sz x i, none, af⟩ :: l) :: k) Q n t h = goE P (eff nm t h (.idx ag len sz x i)) (.idx ag len sz x i) d nm n' l k Q n t h := (rfl)
theorem go_idxs (d : Option Nat) (x i : Operand) (af : List Nat) (nm n' : Nat) (l : List SOper) : go P (.ops nm n' (⟨d, .idxs x i, none, af⟩ :: l) :: k) Q n t h = goE P (eff nm t h (.idxs x i)) (.idxs x i) d nm n' l k Q n t h := (rfl)
theorem go_len (d : Option Nat) (x : Operand) (af : List Nat) (nm n' : Nat) (l : List SOper) : go P (.ops nm n' (⟨d, .len x, none, af⟩ :: l) :: k) Q n t h = goE P (eff nm t h (.len x)) (.len x) d nm n' l k Q n t h := (rfl)
theorem go_cap (d : Option Nat) (x : Operand) (af : List Nat) (nm n' : Nat) (l : List SOper) : go P (.ops nm n' (⟨d, .cap x, none, af⟩ :: l) :: k) Q n t h = goE P (eff nm t h (.cap x)) (.cap x) d nm n' l k Q n t h := (rfl)
theorem go_app (d : Option Nat) (e : TypeId) (sz bytes : Nat) (zs : List Value) (x y : Operand) (af : List Nat) (nm n' : Nat) (l : List SOper) : go P (.ops nm n' (⟨d, .app e sz bytes zs x y, none, af⟩ :: l) :: k) Q n t h = goE P (eff nm t h (.app e sz bytes zs x y)) (.app e sz bytes zs x y) d nm n' l k Q n t h := (rfl)
theorem go_clr (d : Option Nat) (sz : Nat) (zs : List Value) (x : Operand) (af : List Nat) (nm n' : Nat) (l : List SOper) : go P (.ops nm n' (⟨d, .clr sz zs x, none, af⟩ :: l) :: k) Q n t h = goE P (eff nm t h (.clr sz zs x)) (.clr sz zs x) d nm n' l k Q n t h := (rfl)
theorem go_ext (d : Option Nat) (i : Nat) (x : Operand) (af : List Nat) (nm n' : Nat) (l : List SOper) : go P (.ops nm n' (⟨d, .ext i x, none, af⟩ :: l) :: k) Q n t h = goE P (eff nm t h (.ext i x)) (.ext i x) d nm n' l k Q n t h := (rfl)
theorem go_minmax (d : Option Nat) (mx : Bool) (xs : List Operand) (af : List Nat) (nm n' : Nat) (l : List SOper) : go P (.ops nm n' (⟨d, .minmax mx xs, none, af⟩ :: l) :: k) Q n t h = goE P (eff nm t h (.minmax mx xs)) (.minmax mx xs) d nm n' l k Q n t h := (rfl)
theorem go_isnil (d : Option Nat) (neg : Bool) (x : Operand) (af : List Nat) (nm n' : Nat) (l : List SOper) : go P (.ops nm n' (⟨d, .isnil neg x, none, af⟩ :: l) :: k) Q n t h = goNil P (nilK (ev t x)) neg d nm n' l k Q n t h := (rfl)
theorem goNil_some (b neg : Bool) (d : Option Nat) (nm n' : Nat) (l : List SOper) : goNil P (some (some b)) neg d nm n' l k Q n t h = go P (.ops (nm + 8) n' l :: k) Q n (putA t d (.v (.bool (if neg then !b else b)))) h := (rfl)
theorem goNil_any (neg : Bool) (d : Option Nat) (nm n' : Nat) (l : List SOper) : goNil P (some none) neg d nm n' l k Q n t h =
    (go P (.ops (nm + 8) n' l :: k) Q n (putA t d (.v (.bool (if neg then !true else true)))) h ∧ go P (.ops (nm + 8) n' l :: k) Q n (putA t d (.v (.bool (if neg then !false else false)))) h) := (rfl)
theorem go_appz (d : Option Nat) (e : TypeId) (sz bytes : Nat) (zs : List Value) (x y : Operand) (af : List Nat) (nm n' : Nat) (l : List SOper) : go P (.ops nm n' (⟨d, .appz e sz bytes zs x y, none, af⟩ :: l) :: k) Q n t h = goE P (eff nm t h (.appz e sz bytes zs x y)) (.appz e sz bytes zs x y) d nm n' l k Q n t h := (rfl)
theorem go_eqb (d : Option Nat) (neg : Bool) (x y : Operand) (af : List Nat) (nm n' : Nat) (l : List SOper) : go P (.ops nm n' (⟨d, .eqb neg x y, none, af⟩ :: l) :: k) Q n t h = goE P (eff nm t h (.eqb neg x y)) (.eqb neg x y) d nm n' l k Q n t h := (rfl)
theorem go_slen (d : Option Nat) (x : Operand) (af : List Nat) (nm n' : Nat) (l : List SOper) : go P (.ops nm n' (⟨d, .slen x, none, af⟩ :: l) :: k) Q n t h = goE P (eff nm t h (.slen x)) (.slen x) d nm n' l k Q n t h := (rfl)
theorem go_call (d : Option Nat) (f : Operand) (args : List Operand) (af : List Nat) (nm n' : Nat) (l : List SOper) :
    go P (.ops nm n' (⟨d, .call f args, none, af⟩ :: l) :: k) Q n t h = goC P (ev t f) (evL t args) d nm n' l k Q n t h := (rfl)
theorem go_guard (d : Option Nat) (op : SOp) (g : Nat) (w : Bool) (af : List Nat) (nm n' : Nat) (l : List SOper) :
    go P (.ops nm n' (⟨d, op, some (g, w), af⟩ :: l) :: k) Q n t h = goG P (get t g) ⟨d, op, none, af⟩ w nm n' l k Q n t h := by
  cases w <;> rfl
theorem goE_wk {op : SOp} {d : Option Nat} {nm n' : Nat} {l : List SOper} (t' : List (Nat × AV)) (h' : List (Nat × Ob)) (hw : WkTH t h t' h') (hk : goE P (eff nm t' h' op) op d nm n' l k Q n t' h')
    (hs : (eff nm t' h' op).isSome = true) : goE P none op d nm n' l k Q n t h := by
  refine ⟨t', h', hw, ?_⟩
  cases he : eff nm t' h' op with
  | none => rw [he] at hs; cases hs
  | some e => rw [he] at hk; exact hk
theorem goE_some (e : E) (op : SOp) (d : Option Nat) (nm n' : Nat) (l : List SOper) :
    goE P (some e) op d nm n' l k Q n t h = (e.pre ∧ go P (.ops (nm + 8) n' l :: k) Q n (putA t d e.val) (e.upd ++ h)) := (rfl)
theorem goC_fn (g : FuncId) (caps xs : List AV) (d : Option Nat) (nm n' : Nat) (l : List SOper) :
    goC P (some (.fn g caps)) (some xs) d nm n' l k Q n t h = goCall P nm g (xs ++ caps) d n' l k Q n t h := (rfl)
theorem goG_undef (o : SOper) (w : Bool) (nm n' : Nat) (l : List SOper) :
    goG P (some (.v undef)) o w nm n' l k Q n t h = go P (.ops (nm + 8) n' l :: k) Q n (putA t o.dst (.v undef)) h := (rfl)
theorem goG_tt (o : SOper) (nm n' : Nat) (l : List SOper) :
    goG P (some (.v (.bool true))) o true nm n' l k Q n t h = go P (.ops nm n' ({ o with guard := none } :: l) :: k) Q n t h := by simp [goG, onG_bool, Split_true]
theorem goG_tf (o : SOper) (nm n' : Nat) (l : List SOper) :
    goG P (some (.v (.bool true))) o false nm n' l k Q n t h = go P (.ops (nm + 8) n' l :: k) Q n (putA t o.dst (.v undef)) h := by simp [goG, onG_bool, Split_true]
theorem goG_ft (o : SOper) (nm n' : Nat) (l : List SOper) :
    goG P (some (.v (.bool false))) o true nm n' l k Q n t h = go P (.ops (nm + 8) n' l :: k) Q n (putA t o.dst (.v undef)) h := by simp [goG, onG_bool, Split_false]
theorem goG_ff (o : SOper) (nm n' : Nat) (l : List SOper) :
    goG P (some (.v (.bool false))) o false nm n' l k Q n t h = go P (.ops nm n' ({ o with guard := none } :: l) :: k) Q n t h := by simp [goG, onG_bool, Split_false]
theorem goG_split {b : Bool} {o : SOper} {w : Bool} {nm n' : Nat} {l : List SOper}
    (h1 : b = true → goG P (some (.v (.bool true))) o w nm n' l k Q n t h) (h2 : b = false → goG P (some (.v (.bool false))) o w nm n' l k Q n t h) :
    goG P (some (.v (.bool b))) o w nm n' l k Q n t h := by
  cases b
  · exact h2 rfl
  · exact h1 rfl

theorem goD_mov (d : Option Nat) (x : Operand) (af : List Nat) (nm n' : Nat) (l ops : List SOper) (acc : List Foot) : go P (.drw nm n' (⟨d, .mov x, none, af⟩ :: l) ops acc :: k) Q n t h = goED P (eff nm t h (.mov x)) (rdOf t (.mov x)) d nm n' l ops acc k Q n t h := (rfl)
theorem goD_pick (d : Option Nat) (c a b : Operand) (af : List Nat) (nm n' : Nat) (l ops : List SOper) (acc : List Foot) : go P (.drw nm n' (⟨d, .pick c a b, none, af⟩ :: l) ops acc :: k) Q n t h = goED P (eff nm t h (.pick c a b)) (rdOf t (.pick c a b)) d nm n' l ops acc k Q n t h := (rfl)
theorem goD_alloc (d : Option Nat) (zs : List Value) (af : List Nat) (nm n' : Nat) (l ops : List SOper) (acc : List Foot) : go P (.drw nm n' (⟨d, .alloc zs, none, af⟩ :: l) ops acc :: k) Q n t h = goED P (eff nm t h (.alloc zs)) (rdOf t (.alloc zs)) d nm n' l ops acc k Q n t h := (rfl)
theorem goD_box (d : Option Nat) (x : Operand) (af : List Nat) (nm n' : Nat) (l ops : List SOper) (acc : List Foot) : go P (.drw nm n' (⟨d, .box x, none, af⟩ :: l) ops acc :: k) Q n t h = goED P (eff nm t h (.box x)) (rdOf t (.box x)) d nm n' l ops acc k Q n t h := (rfl)
theorem goD_build (d : Option Nat) (zs : List Value) (parts : List (Nat × Nat × Operand)) (af : List Nat) (nm n' : Nat) (l ops : List SOper) (acc : List Foot) : go P (.drw nm n' (⟨d, .build zs parts, none, af⟩ :: l) ops acc :: k) Q n t h = goED P (eff nm t h (.build zs parts)) (rdOf t (.build zs parts)) d nm n' l ops acc k Q n t h := (rfl)
theorem goD_bslice (d : Option Nat) (e : TypeId) (sz : Nat) (zs : List Value) (len : Nat) (parts : List (Nat × Operand)) (af : List Nat) (nm n' : Nat) (l ops : List SOper) (acc : List Foot) : go P (.drw nm n' (⟨d, .bslice e sz zs len parts, none, af⟩ :: l) ops acc :: k) Q n t h = goED P (eff nm t h (.bslice e sz zs len parts)) (rdOf t (.bslice e sz zs len parts)) d nm n' l ops acc k Q n t h := (rfl)
theorem goD_load (d : Option Nat) (ag : Bool) (sz : Nat) (x : Operand) (af : List Nat) (nm n' : Nat) (l ops : List SOper) (acc : List Foot) : go P (.drw nm n' (⟨d, .load ag sz x, none, af⟩ :: l) ops acc :: k) Q n t h = goED P (eff nm t h (.load ag sz x)) (rdOf t (.load ag sz x)) d nm n' l ops acc k Q n t h := (rfl)
theorem goD_store (d : Option Nat) (sz : Nat) (x y : Operand) (af : List Nat) (nm n' : Nat) (l ops : List SOper) (acc : List Foot) : go P (.drw nm n' (⟨d, .store sz x y, none, af⟩ :: l) ops acc :: k) Q n t h = goED P (eff nm t h (.store sz x y)) (rdOf t (.store sz x y)) d nm n' l ops acc k Q n t h := (rfl)
theorem goD_nilc (d : Option Nat) (x : Operand) (af : List Nat) (nm n' : Nat) (l ops : List SOper) (acc : List Foot) : go P (.drw nm n' (⟨d, .nilc x, none, af⟩ :: l) ops acc :: k) Q n t h = goED P (eff nm t h (.nilc x)) (rdOf t (.nilc x)) d nm n' l ops acc k Q n t h := (rfl)
theorem goD_bin (d : Option Nat) (op : BinOp) (x y : Operand) (af : List Nat) (nm n' : Nat) (l ops : List SOper) (acc : List Foot) : go P (.drw nm n' (⟨d, .bin op x y, none, af⟩ :: l) ops acc :: k) Q n t h = goED P (eff nm t h (.bin op x y)) (rdOf t (.bin op x y)) d nm n' l ops acc k Q n t h := (rfl)
theorem goD_eqs (d : Option Nat) (neg : Bool) (ks : List Nat) (x y : Operand) (af : List Nat) (nm n' : Nat) (l ops : List SOper) (acc : List Foot) : go P (.drw nm n' (⟨d, .eqs neg ks x y, none, af⟩ :: l) ops acc :: k) Q n t h = goED P (eff nm t h (.eqs neg ks x y)) (rdOf t (.eqs neg ks x y)) d nm n' l ops acc k Q n t h := (rfl)
theorem goD_un (d : Option Nat) (op : UnOp) (x : Operand) (af : List Nat) (nm n' : Nat) (l ops : List SOper) (acc : List Foot) : go P (.drw nm n' (⟨d, .un op x, none, af⟩ :: l) ops acc :: k) Q n t h = goED P (eff nm t h (.un op x)) (rdOf t (.un op x)) d nm n' l ops acc k Q n t h := (rfl)
theorem goD_conv (d : Option Nat) (q : IntKind) (x : Operand) (af : List Nat) (nm n' : Nat) (l ops : List SOper) (acc : List Foot) : go P (.drw nm n' (⟨d, .conv q x, none, af⟩ :: l) ops acc :: k) Q n t h = goED P (eff nm t h (.conv q x)) (rdOf t (.conv q x)) d nm n' l ops acc k Q n t h := (rfl)
theorem goD_s2b (d : Option Nat) (e : TypeId) (x : Operand) (af : List Nat) (nm n' : Nat) (l ops : List SOper) (acc : List Foot) : go P (.drw nm n' (⟨d, .s2b e x, none, af⟩ :: l) ops acc :: k) Q n t h = goED P (eff nm t h (.s2b e x)) (rdOf t (.s2b e x)) d nm n' l ops acc k Q n t h := (rfl)
theorem goD_b2s (d : Option Nat) (x : Operand) (af : List Nat) (nm n' : Nat) (l ops : List SOper) (acc : List Foot) : go P (.drw nm n' (⟨d, .b2s x, none, af⟩ :: l) ops acc :: k) Q n t h = goED P (eff nm t h (.b2s x)) (rdOf t (.b2s x)) d nm n' l ops acc k Q n t h := (rfl)
theorem goD_mkfn (d : Option Nat) (f : FuncId) (caps : List Operand) (af : List Nat) (nm n' : Nat) (l ops : List SOper) (acc : List Foot) : go P (.drw nm n' (⟨d, .mkfn f caps, none, af⟩ :: l) ops acc :: k) Q n t h = goED P (eff nm t h (.mkfn f caps)) (rdOf t (.mkfn f caps)) d nm n' l ops acc k Q n t h := (rfl)
theorem goD_mkmap (d : Option Nat)  (af : List Nat) (nm n' : Nat) (l ops : List SOper) (acc : List Foot) : go P (.drw nm n' (⟨d, .mkmap, none, af⟩ :: l) ops acc :: k) Q n t h = goED P (eff nm t h (.mkmap)) (rdOf t (.mkmap)) d nm n' l ops acc k Q n t h := (rfl)
theorem goD_look (d : Option Nat) (z : Value) (m x : Operand) (af : List Nat) (nm n' : Nat) (l ops : List SOper) (acc : List Foot) : go P (.drw nm n' (⟨d, .look z m x, none, af⟩ :: l) ops acc :: k) Q n t h = goED P (eff nm t h (.look z m x)) (rdOf t (.look z m x)) d nm n' l ops acc k Q n t h := (rfl)
theorem goD_mput (d : Option Nat) (m x y : Operand) (af : List Nat) (nm n' : Nat) (l ops : List SOper) (acc : List Foot) : go P (.drw nm n' (⟨d, .mput m x y, none, af⟩ :: l) ops acc :: k) Q n t h = goED P (eff nm t h (.mput m x y)) (rdOf t (.mput m x y)) d nm n' l ops acc k Q n t h := (rfl)
theorem goD_mkslice (d : Option Nat) (e : TypeId) (sz bytes : Nat) (zs : List Value) (a c : Operand) (af : List Nat) (nm n' : Nat) (l ops : List SOper) (acc : List Foot) : go P (.drw nm n' (⟨d, .mkslice e sz bytes zs a c, none, af⟩ :: l) ops acc :: k) Q n t h = goED P (eff nm t h (.mkslice e sz bytes zs a c)) (rdOf t (.mkslice e sz bytes zs a c)) d nm n' l ops acc k Q n t h := (rfl)
theorem goD_slice (d : Option Nat) (sz : Nat) (x : Operand) (lo hi mx : Option Operand) (af : List Nat) (nm n' : Nat) (l ops : List SOper) (acc : List Foot) : go P (.drw nm n' (⟨d, .slice sz x lo hi mx, none, af⟩ :: l) ops acc :: k) Q n t h = goED P (eff nm t h (.slice sz x lo hi mx)) (rdOf t (.slice sz x lo hi mx)) d nm n' l ops acc k Q n t h := (rfl)
theorem goD_sslice (d : Option Nat) (x : Operand) (lo hi : Option Operand) (af : List Nat) (nm n' : Nat) (l ops : List SOper) (acc : List Foot) : go P (.drw nm n' (⟨d, .sslice x lo hi, none, af⟩ :: l) ops acc :: k) Q n t h = goED P (eff nm t h (.sslice x lo hi)) (rdOf t (.sslice x lo hi)) d nm n' l ops acc k Q n t h := (rfl)
theorem goD_faddr (d : Option Nat) (off : Nat) (x : Operand) (af : List Nat) (nm n' : Nat) (l ops : List SOper) (acc : List Foot) : go P (.drw nm n' (⟨d, .faddr off x, none, af⟩ :: l) ops acc :: k) Q n t h = goED P (eff nm t h (.faddr off x)) (rdOf t (.faddr off x)) d nm n' l ops acc k Q n t h := (rfl)
theorem goD_fld (d : Option Nat) (ag : Bool) (off sz : Nat) (x : Operand) (af : List Nat) (nm n' : Nat) (l ops : List SOper) (acc : List Foot) : go P (.drw nm n' (⟨d, .fld ag off sz x, none, af⟩ :: l) ops acc :: k) Q n t h = goED P (eff nm t h (.fld ag off sz x)) (rdOf t (.fld ag off sz x)) d nm n' l ops acc k Q n t h := (rfl)
theorem goD_iaddr (d : Option Nat) (sz : Nat) (x i : Operand) (af : List Nat) (nm n' : Nat) (l ops : List SOper) (acc : List Foot) : go P (.drw nm n' (⟨d, .iaddr sz x i, none, af⟩ :: l) ops acc :: k) Q n t h = goED P (eff nm t h (.iaddr sz x i)) (rdOf t (.iaddr sz x i)) d nm n' l ops acc k Q n t h := (rfl)
theorem goD_iaddrA (d : Option Nat) (len sz : Nat) (x i : Operand) (af : List Nat) (nm n' : Nat) (l ops : List SOper) (acc : List Foot) : go P (.drw nm n' (⟨d, .iaddrA len sz x i, none, af⟩ :: l) ops acc :: k) Q n t h = goED P (eff nm t h (.iaddrA len sz x i)) (rdOf t (.iaddrA len sz x i)) d nm n' l ops acc k Q n t h := (rfl)
theorem goD_idx (d : Option Nat) (ag : Bool) (len sz : Nat) (x i : Operand) (af : List Nat) (nm n' : Nat) (l ops : List SOper) (acc : List Foot) : go P (.drw nm n' (⟨d, .idx ag len sz x i, none, af⟩ :: l) ops acc :: k) Q n t h = goED P (eff nm t h (.idx ag len sz x i)) (rdOf t (.idx ag len sz x i)) d nm n' l ops acc k Q n t h := (rfl)
theorem goD_idxs (d : Option Nat) (x i : Operand) (af : List Nat) (nm n' : Nat) (l ops : List SOper) (acc : List Foot) : go P (.drw nm n' (⟨d, .idxs x i, none, af⟩ :: l) ops acc :: k) Q n t h = goED P (eff nm t h (.idxs x i)) (rdOf t (.idxs x i)) d nm n' l ops acc k Q n t h := (rfl)
theorem goD_len (d : Option Nat) (x : Operand) (af : List Nat) (nm n' : Nat) (l ops : List SOper) (acc : List Foot) : go P (.drw nm n' (⟨d, .len x, none, af⟩ :: l) ops acc :: k) Q n t h = goED P (eff nm t h (.len x)) (rdOf t (.len x)) d nm n' l ops acc k Q n t h := (rfl)
theorem goD_cap (d : Option Nat) (x : Operand) (af : List Nat) (nm n' : Nat) (l ops : List SOper) (acc : List Foot) : go P (.drw nm n' (⟨d, .cap x, none, af⟩ :: l) ops acc :: k) Q n t h = goED P (eff nm t h (.cap x)) (rdOf t (.cap x)) d nm n' l ops acc k Q n t h := (rfl)
theorem goD_app (d : Option Nat) (e : TypeId) (sz bytes : Nat) (zs : List Value) (x y : Operand) (af : List Nat) (nm n' : Nat) (l ops : List SOper) (acc : List Foot) : go P (.drw nm n' (⟨d, .app e sz bytes zs x y, none, af⟩ :: l) ops acc :: k) Q n t h = goED P (eff nm t h (.app e sz bytes zs x y)) (rdOf t (.app e sz bytes zs x y)) d nm n' l ops acc k Q n t h := (rfl)
theorem goD_clr (d : Option Nat) (sz : Nat) (zs : List Value) (x : Operand) (af : List Nat) (nm n' : Nat) (l ops : List SOper) (acc : List Foot) : go P (.drw nm n' (⟨d, .clr sz zs x, none, af⟩ :: l) ops acc :: k) Q n t h = goED P (eff nm t h (.clr sz zs x)) (rdOf t (.clr sz zs x)) d nm n' l ops acc k Q n t h := (rfl)
theorem goD_ext (d : Option Nat) (i : Nat) (x : Operand) (af : List Nat) (nm n' : Nat) (l ops : List SOper) (acc : List Foot) : go P (.drw nm n' (⟨d, .ext i x, none, af⟩ :: l) ops acc :: k) Q n t h = goED P (eff nm t h (.ext i x)) (rdOf t (.ext i x)) d nm n' l ops acc k Q n t h := (rfl)
theorem goD_minmax (d : Option Nat) (mx : Bool) (xs : List Operand) (af : List Nat) (nm n' : Nat) (l ops : List SOper) (acc : List Foot) : go P (.drw nm n' (⟨d, .minmax mx xs, none, af⟩ :: l) ops acc :: k) Q n t h = goED P (eff nm t h (.minmax mx xs)) (rdOf t (.minmax mx xs)) d nm n' l ops acc k Q n t h := (rfl)
theorem goD_appz (d : Option Nat) (e : TypeId) (sz bytes : Nat) (zs : List Value) (x y : Operand) (af : List Nat) (nm n' : Nat) (l ops : List SOper) (acc : List Foot) : go P (.drw nm n' (⟨d, .appz e sz bytes zs x y, none, af⟩ :: l) ops acc :: k) Q n t h = goED P (eff nm t h (.appz e sz bytes zs x y)) (rdOf t (.appz e sz bytes zs x y)) d nm n' l ops acc k Q n t h := (rfl)
theorem goD_eqb (d : Option Nat) (neg : Bool) (x y : Operand) (af : List Nat) (nm n' : Nat) (l ops : List SOper) (acc : List Foot) : go P (.drw nm n' (⟨d, .eqb neg x y, none, af⟩ :: l) ops acc :: k) Q n t h = goED P (eff nm t h (.eqb neg x y)) (rdOf t (.eqb neg x y)) d nm n' l ops acc k Q n t h := (rfl)
theorem goD_slen (d : Option Nat) (x : Operand) (af : List Nat) (nm n' : Nat) (l ops : List SOper) (acc : List Foot) : go P (.drw nm n' (⟨d, .slen x, none, af⟩ :: l) ops acc :: k) Q n t h = goED P (eff nm t h (.slen x)) (rdOf t (.slen x)) d nm n' l ops acc k Q n t h := (rfl)
theorem goX_drw (id nm n' : Nat) (l ops : List SOper) (acc : List Foot) : goX P id (.drw nm n' l ops acc :: k) Q n t h = goX P id k Q n t h := (rfl)
theorem go_region_draw (ops : List SOper) : go P (.code (.region ops true) :: k) Q n t h = go P (.drw n (n + 8 * ops.length) ops ops [] :: k) Q n t h := by
  simp [go, goN, wpc, wpDraw]
theorem go_drw_nil (nm n' : Nat) (ops : List SOper) (acc : List Foot) : go P (.drw nm n' [] ops acc :: k) Q n t h = (okDraw ops acc.reverse = true ∧ go P k Q n' t h) := (rfl)
theorem goED_some (e : E) (rd : List Nat) (d : Option Nat) (nm n' : Nat) (l ops : List SOper) (acc : List Foot) :
    goED P (some e) rd d nm n' l ops acc k Q n t h = (e.pre ∧ go P (.drw (nm + 8) n' l ops ((rd, e.upd.map Prod.fst) :: acc) :: k) Q n (putA t d e.val) (e.upd ++ h)) := (rfl)
theorem goD_call (d : Option Nat) (f : Operand) (args : List Operand) (af : List Nat) (nm n' : Nat) (l ops : List SOper) (acc : List Foot) :
    go P (.drw nm n' (⟨d, .call f args, none, af⟩ :: l) ops acc :: k) Q n t h = goCD P (ev t f) (evL t args) d nm n' l ops acc k Q n t h := (rfl)
theorem goCD_fn (g : FuncId) (caps xs : List AV) (d : Option Nat) (nm n' : Nat) (l ops : List SOper) (acc : List Foot) :
    goCD P (some (.fn g caps)) (some xs) d nm n' l ops acc k Q n t h = goCallD P nm g (xs ++ caps) d n' l ops acc k Q n t h := (rfl)
theorem goD_isnil (d : Option Nat) (neg : Bool) (x : Operand) (af : List Nat) (nm n' : Nat) (l ops : List SOper) (acc : List Foot) :
    go P (.drw nm n' (⟨d, .isnil neg x, none, af⟩ :: l) ops acc :: k) Q n t h = goNilD P (nilK (ev t x)) neg d nm n' l ops acc k Q n t h := (rfl)
theorem goNilD_some (b neg : Bool) (d : Option Nat) (nm n' : Nat) (l ops : List SOper) (acc : List Foot) : goNilD P (some (some b)) neg d nm n' l ops acc k Q n t h =
    go P (.drw (nm + 8) n' l ops (([], []) :: acc) :: k) Q n (putA t d (.v (.bool (if neg then !b else b)))) h := (rfl)
theorem goD_guard (d : Option Nat) (op : SOp) (g : Nat) (w : Bool) (af : List Nat) (nm n' : Nat) (l ops : List SOper) (acc : List Foot) :
    go P (.drw nm n' (⟨d, op, some (g, w), af⟩ :: l) ops acc :: k) Q n t h = goGD P (get t g) ⟨d, op, none, af⟩ w nm n' l ops acc k Q n t h := by
  cases w <;> rfl
theorem goGD_undef (o : SOper) (w : Bool) (nm n' : Nat) (l ops : List SOper) (acc : List Foot) :
    goGD P (some (.v undef)) o w nm n' l ops acc k Q n t h = go P (.drw (nm + 8) n' l ops (([], []) :: acc) :: k) Q n (putA t o.dst (.v undef)) h := (rfl)
theorem goGD_tt (o : SOper) (nm n' : Nat) (l ops : List SOper) (acc : List Foot) :
    goGD P (some (.v (.bool true))) o true nm n' l ops acc k Q n t h = go P (.drw nm n' ({ o with guard := none } :: l) ops acc :: k) Q n t h := by simp [goGD, onG_bool, Split_true]
theorem goGD_tf (o : SOper) (nm n' : Nat) (l ops : List SOper) (acc : List Foot) :
    goGD P (some (.v (.bool true))) o false nm n' l ops acc k Q n t h = go P (.drw (nm + 8) n' l ops (([], []) :: acc) :: k) Q n (putA t o.dst (.v undef)) h := by simp [goGD, onG_bool, Split_true]
theorem goGD_ft (o : SOper) (nm n' : Nat) (l ops : List SOper) (acc : List Foot) :
    goGD P (some (.v (.bool false))) o true nm n' l ops acc k Q n t h = go P (.drw (nm + 8) n' l ops (([], []) :: acc) :: k) Q n (putA t o.dst (.v undef)) h := by simp [goGD, onG_bool, Split_false]
theorem goGD_ff (o : SOper) (nm n' : Nat) (l ops : List SOper) (acc : List Foot) :
    goGD P (some (.v (.bool false))) o false nm n' l ops acc k Q n t h = go P (.drw nm n' ({ o with guard := none } :: l) ops acc :: k) Q n t h := by simp [goGD, onG_bool, Split_false]
theorem goGD_split {b : Bool} {o : SOper} {w : Bool} {nm n' : Nat} {l ops : List SOper} {acc : List Foot}
    (h1 : b = true → goGD P (some (.v (.bool true))) o w nm n' l ops acc k Q n t h) (h2 : b = false → goGD P (some (.v (.bool false))) o w nm n' l ops acc k Q n t h) :
    goGD P (some (.v (.bool b))) o w nm n' l ops acc k Q n t h := by
  cases b
  · exact h2 rfl
  · exact h1 rfl
theorem goCall_use {f : FuncId} {args : List AV} {r : Rec} {d : Option Nat} {nm n' : Nat} {l : List SOper} (hc : CallD P nm f args h r) (hk : go P (.ops (nm + 8) n' l :: k) Q n (putA t d r.val) (r.upd ++ h)) :
    goCall P nm f args d n' l k Q n t h := hc h (fun _ _ => rfl) _ hk
theorem goCallD_use {f : FuncId} {args : List AV} {r : Rec} {d : Option Nat} {nm n' : Nat} {l ops : List SOper} {acc : List Foot} (hc : CallD P nm f args h r)
    (hk : go P (.drw (nm + 8) n' l ops ((r.rd, r.upd.map Prod.fst) :: acc) :: k) Q n (putA t d r.val) (r.upd ++ h)) : goCallD P nm f args d n' l ops acc k Q n t h := ⟨r, hc, hk⟩

/-- A loop by a family of states at its head. -/
theorem go_loop {c : SCode} {α : Type} (S : α → St) (μ : α → Nat) (a0 : α) (hw : Wk ⟨n, t, h⟩ (S a0))
    (hb : ∀ a (B : St → Prop), (∀ s' a', μ a' < μ a → Wk s' (S a') → B s') → go P (.code c :: .lp B :: k) Q (S a).n (S a).t (S a).h) :
    go P (.code (.loop c) :: k) Q n t h := by
  refine ⟨α, S, μ, a0, hw, fun a => ?_⟩
  have := hb a (fun s' => ∃ a', μ a' < μ a ∧ Wk s' (S a')) (fun s' a' h1 h2 => ⟨a', h1, h2⟩)
  simp only [go, goN] at this
  have e : (seqK (fun s' => ∃ a', μ a' < μ a ∧ Wk s' (S a')) (fun e s' => match e with
      | .normal => goN P Q k s'
      | .exit id => goN.goX P Q id k s'
      | e => Q e s')) = (fun e s' => match e with
      | .normal => ∃ a', μ a' < μ a ∧ Wk s' (S a')
      | .exit id => goN.goX P Q id (.lp (fun s' => ∃ a', μ a' < μ a ∧ Wk s' (S a')) :: k) s'
      | e => Q e s') := by
    funext e s'
    cases e <;> rfl
  rw [e]
  exact this
end eqs

end Go.Eng
