/-
  The engine, joined part J: an abstract interpreter over the kit's calls, and its soundness.
  No condition beyond those that each theorem states.
-/
import Derived.Test.YtfcecgfjjamlcaaGreatEngI
set_option linter.all false
namespace Go.Eng
open Go
abbrev Env := List (Nat × X)
abbrev Env0 := List (Nat × Option X)
def rd0 (T : Env0) (j : Nat) : Option X := match get T j with
  | some c => c
  | none => none
def LookOk (t : List (Nat × AV)) (E : Env) (F : Nat → X → Prop) : Prop := (∀ k x, get E k = some x → get t k = some x.dec) ∧ ∀ k x, get E k = none → F k x → get t k = some x.dec
def SameF (F : Nat → X → Prop) (T : Env0) : Prop := ∀ k x, rd0 T k = some x → F k x
def putE (E : Env) (d : Option Nat) (y : X) : Env := match d with
  | some d => (d, y) :: E
  | none => E
theorem LookOk.put {t : List (Nat × AV)} {E : Env} {F : Nat → X → Prop} (h : LookOk t E F) (d : Option Nat) (y : X) : LookOk (putA t d y.dec) (putE E d y) F := by
  cases d with
  | none => exact h
  | some d =>
    refine ⟨fun k x hk => ?_, fun k x hk hT => ?_⟩
    · simp only [putE, get] at hk
      simp only [putA, get]
      split at hk
      · rename_i e; rw [if_pos e]; cases hk; rfl
      · rename_i e; rw [if_neg e]; exact h.1 k x hk
    · simp only [putE, get] at hk
      simp only [putA, get]
      split at hk
      · cases hk
      · rename_i e; rw [if_neg e]; exact h.2 k x hk hT
noncomputable section
abbrev cndB {α : Type} (b : Bool) (x y : α) : α := @Bool.rec (fun _ => α) y x b
abbrev opd (E : Env) (T : Env0) (x : Operand) (k : X → RRX) : RRX := match x with
  | .tmp j => match get E j with
    | some y => k y
    | none => oX (rd0 T j) k
  | .const c => k (encV c)
  | .func f => cndB (Nat.blt f 1000000) (k ⟨15, [], .fn f []⟩) none
  | .global _ => none
abbrev opdL (E : Env) (T : Env0) : List Operand → (List X → RRX) → RRX
  | [], k => k []
  | x :: l, k => opd E T x fun y => opdL E T l fun ys => k (y :: ys)
abbrev opdI (E : Env) (T : Env0) (x : Option Operand) (k : Option Nat → RRX) : RRX := match x with
  | none => k none
  | some x => opd E T x fun y => ifX (isT y 0) (k (some (hiX y)))
abbrev tsE (E : Env) (T : Env0) : List Nat → (List (Nat × X) → RRX) → RRX
  | [], k => k []
  | j :: l, k => opd E T (.tmp j) fun y => tsE E T l fun ts => k ((j, y) :: ts)
abbrev partsE (E : Env) (T : Env0) : List (Nat × Nat × Operand) → List X → (List X → RRX) → RRX
  | [], cs, k => k cs
  | (off, sz, x) :: l, cs, k => opd E T x fun y => cndB (Nat.beq sz 1) (part1 off y cs fun cs => partsE E T l cs k) (partX off sz y cs fun cs => partsE E T l cs k)
abbrev elsE (E : Env) (T : Env0) (sz len : Nat) : List (Nat × Operand) → List X → (List X → RRX) → RRX
  | [], xs, k => k xs
  | (i, x) :: l, xs, k => cndB (Nat.blt i len) (opd E T x fun y => elX sz y fun y => elsE E T sz len l (setX xs i y) k) none
def nilF (p : X) (k : RRX) : RRX := match p.dec with
  | .fn f _ => ifX (Nat.blt f 2000000) k
  | _ => none
def xNilc' (p : X) (H : HX) (k : X → RRX) : RRX := iteX (isT p 15) (nilF p (k p)) (xNilc p H k)
abbrev ClX := RunX → Nat → Nat → HX → FuncId → List X → List Use → KX → RRX
def callV (cl : ClX) (run : RunX) (n nm : Nat) (H : HX) (f : X) (ys : List X) (O : List Use) (k : KX) : RRX := match f.dec with
  | .fn g caps => bif Nat.blt g 1000000 then cl run n nm H g (appX ys (encL caps)) O k else bif Nat.blt g 2000000 then cl run n nm H (g - 1000000) (appX (encL caps) ys) O k else none
  | _ => none
def orcK (y : Option X) (f : Nat) (xs : List AV) (H : HX) (O : List Use) (k : KX) : RRX := @Option.rec X (fun _ => RRX) none (fun y => k y H (⟨f, xs, [], y.dec, []⟩ :: O)) y
structure Orc where
  bin : BinOp → X → X → Option X
  conv : IntKind → X → Option X
def xBinO (orc : Option Orc) (op : BinOp) (a b : X) (H : HX) (O : List Use) (k : KX) : RRX := match orc with
  | none => xBin op a b fun y => k y H O
  | some f => iteX (isT a 14) (orcK (f.bin op a b) (opB + opCode op) [a.dec, b.dec] H O k) (iteX (isT b 14) (orcK (f.bin op a b) (opB + opCode op) [a.dec, b.dec] H O k) (xBin op a b fun y => k y H O))
def xConvO (orc : Option Orc) (q : IntKind) (a : X) (H : HX) (O : List Use) (k : KX) : RRX := match orc with
  | none => xConv q a fun y => k y H O
  | some f => iteX (isT a 14) (orcK (f.conv q a) (opB + 100 + kCode q) [a.dec] H O k) (xConv q a fun y => k y H O)
abbrev denC (cl : ClX) (run : RunX) (n nm : Nat) (T : Env0) (E : Env) (H : HX) (O : List Use) (f : Operand) (args : List Operand) (k : KX) : RRX := match f with
  | .func g => cndB (Nat.blt g 1000000) (opdL E T args fun ys => cl run n nm H g ys O k) none
  | f => opd E T f fun fv => opdL E T args fun ys => callV cl run n nm H fv ys O k
def denP (orc : Option Orc) (run : RunX) (n nm : Nat) (T : Env0) (E : Env) (H : HX) (O : List Use) (op : SOp) (k : KX) : RRX := match op with
  | .mov x => opd E T x fun y => k y H O
  | .pick c a b => opd E T c fun c => opd E T a fun a => opd E T b fun b => xPick c a b fun y => k y H O
  | .alloc zs => xAlloc nm (encL (zs.map .v)) H fun y H => k y H O
  | .box x => opd E T x fun x => xBox nm x H fun y H => k y H O
  | .build zs ps => cndB (fitsB zs.length ps) (partsE E T ps (encL (zs.map .v)) fun cs => k ⟨2, cs, oZ⟩ H O) none
  | .bslice e sz zs len ps => elsE E T sz len ps (repX len ⟨2, encL (zs.map .v), oZ⟩) fun xs => xRow nm e sz len xs H fun y H => k y H O
  | .load true sz x => opd E T x fun p => xLdA sz p H fun y => k y H O
  | .load false sz x => opd E T x fun p => xLd1 p H fun y => k y H O
  | .store sz x y => opd E T x fun p => opd E T y fun z => cndB (Nat.beq sz 1) (xSt1 p z H fun H => k xU H O) (xStA sz p z H fun H => k xU H O)
  | .nilc x => opd E T x fun p => xNilc' p H fun y => k y H O
  | .bin op x y => opd E T x fun a => opd E T y fun b => xBinO orc op a b H O k
  | .eqs neg ks x y => opd E T x fun a => opd E T y fun b => xEqs neg ks a b fun y => k y H O
  | .isnil neg x => opd E T x fun a => xIsnil neg a fun y => k y H O
  | .un .not x => opd E T x fun a => xNot a fun y => k y H O
  | .conv q x => opd E T x fun a => xConvO orc q a H O k
  | .faddr off x => opd E T x fun p => xFaddr off p H fun y => k y H O
  | .fld ag off sz x => opd E T x fun a => xFld ag off sz a fun y => k y H O
  | .iaddr sz x i => opd E T x fun a => opd E T i fun b => xIaddr sz a b H fun y => k y H O
  | .len x => opd E T x fun a => xLen a H fun y => k y H O
  | .ext i x => opd E T x fun a => xExt i a fun y => k y H O
  | .mkslice e sz bytes zs l c => opd E T l fun l => opd E T c fun c => xMks nm e sz bytes ⟨2, encL (zs.map .v), oZ⟩ l c H fun y H => k y H O
  | .app e sz bytes _ s x => opd E T s fun s => opd E T x fun x => xApp nm e sz bytes s x H fun y H => k y H O
  | .copy sz d x => opd E T d fun d => opd E T x fun x => xCopy sz d x H fun y H => k y H O
  | .slice sz x lo hi none => opd E T x fun x => opdI E T lo fun lo => opdI E T hi fun hi => xSlice sz x (@Option.rec Nat (fun _ => Nat) 0 (fun r => r) lo) hi H fun y => k y H O
  | .call f args => denC callX' run n nm T E H O f args k
  | op => tsE E T (dedL (tmpsO (opnds op))) fun ts => xGen op ts n nm H fun y H => k y H O
end
section
variable {t : List (Nat × AV)} {E : Env} {T : Env0} {F : Nat → X → Prop}
theorem opd_some (hT : SameF F T) {x : Operand} {k : X → RRX} {r} (h : opd E T x k = some r) : ∃ y, k y = some r ∧ ∀ t, LookOk t E F → ev t x = some y.dec := by
  cases x with
  | tmp j =>
    simp only [opd] at h
    split at h
    · rename_i y hy; exact ⟨y, h, fun t hl => hl.1 j y hy⟩
    · rename_i hn
      obtain ⟨y, hy, h⟩ := oX_some h
      exact ⟨y, h, fun t hl => hl.2 j y hn (hT j y hy)⟩
  | const c => exact ⟨_, h, fun t _ => by rw [encV_dec]; rfl⟩
  | func f =>
    simp only [opd] at h
    cases hb : Nat.blt f 1000000 with
    | true =>
      rw [hb] at h
      exact ⟨_, h, fun t _ => by rw [dec_15]; simp only [ev]; rw [if_pos (blt_lt hb)]⟩
    | false => rw [hb] at h; cases h
  | global g => cases h
theorem opdL_some (hT : SameF F T) : ∀ {l : List Operand} {k : List X → RRX} {r}, opdL E T l k = some r → ∃ ys, k ys = some r ∧ ∀ t, LookOk t E F → evL t l = some (decL ys)
  | [], k, r, h => ⟨[], h, fun t _ => by simp only [evL, decL]⟩
  | x :: l, k, r, h => by
    simp only [opdL] at h
    obtain ⟨y, h, h1⟩ := opd_some hT h
    obtain ⟨ys, h, h2⟩ := opdL_some hT h
    exact ⟨y :: ys, h, fun t hl => by simp only [evL, h1 t hl, h2 t hl, decL]⟩
theorem opdI_some (hT : SameF F T) {x : Option Operand} {k : Option Nat → RRX} {r} (h : opdI E T x k = some r) : ∃ q, k q = some r ∧ ∀ t, LookOk t E F → ∀ d : Nat, bound t d x = some (Int.ofNat (q.getD d)) := by
  cases x with
  | none => exact ⟨none, h, fun t _ d => rfl⟩
  | some x =>
    simp only [opdI] at h
    obtain ⟨y, h, h1⟩ := opd_some hT h
    obtain ⟨h2, h⟩ := ifX_some h
    refine ⟨_, h, fun t hl d => ?_⟩
    simp only [bound, h1 t hl, isT0 h2, Option.getD_some]
theorem tsE_some (hT : SameF F T) : ∀ {l : List Nat} {k : List (Nat × X) → RRX} {r}, tsE E T l k = some r → ∃ ts, k ts = some r ∧ ∀ t, LookOk t E F → ∀ j ∈ l, ∃ x, get (ts.map fun p => (p.1, p.2.dec)) j = some x ∧ get t j = some x
  | [], k, r, h => ⟨[], h, fun t _ j hj => by simp at hj⟩
  | i :: l, k, r, h => by
    simp only [tsE] at h
    obtain ⟨y, h, h1⟩ := opd_some hT h
    obtain ⟨ts, h, h2⟩ := tsE_some hT h
    refine ⟨_, h, fun t hl j hj => ?_⟩
    simp only [List.map, get]
    by_cases e : i = j
    · rw [if_pos e]; subst e; exact ⟨_, rfl, h1 t hl⟩
    · rw [if_neg e]
      rcases List.mem_cons.1 hj with rfl | hj
      · exact absurd rfl e
      · exact h2 t hl j hj
theorem partsE_some (hT : SameF F T) : ∀ {ps : List (Nat × Nat × Operand)} {cs : List X} {k : List X → RRX} {r}, (∀ p ∈ ps, p.1 + p.2.1 ≤ cs.length) → partsE E T ps cs k = some r →
    ∃ cs', k cs' = some r ∧ ∀ t, LookOk t E F → ∃ l, partsA t ps = some l ∧ fillA (decL cs) l = some (decL cs')
  | [], cs, k, r, _, h => ⟨cs, h, fun t _ => ⟨[], rfl, rfl⟩⟩
  | (off, sz, x) :: ps, cs, k, r, hl, h => by
    simp only [partsE] at h
    obtain ⟨y, h, h1⟩ := opd_some hT h
    have h0 : off + sz ≤ cs.length := hl (off, sz, x) (List.mem_cons_self ..)
    obtain ⟨cs1, ys, h, hc, hy, he, hn⟩ : ∃ cs1 ys, partsE E T ps cs1 k = some r ∧ cellsA y.dec = some ys ∧ ys.length = sz ∧ decL cs1 = splice (decL cs) off ys ∧ cs1.length = cs.length := by
      cases hb : Nat.beq sz 1 with
      | true =>
        rw [hb] at h
        have e := Nat.eq_of_beq_eq_true hb
        subst e
        exact part1_some h h0
      | false => rw [hb] at h; exact partX_some h h0
    obtain ⟨cs', hk, ht⟩ := partsE_some hT (fun p hp => by rw [hn]; exact hl p (List.mem_cons_of_mem _ hp)) h
    refine ⟨cs', hk, fun t hl' => ?_⟩
    obtain ⟨l, g1, g2⟩ := ht t hl'
    refine ⟨(off, ys) :: l, ?_, ?_⟩
    · simp only [partsA, h1 t hl', g1, hc, if_pos hy]
    · simp only [fillA]; rw [if_pos (by rw [decL_len]; omega), ← he]; exact g2
theorem elsE_some (hT : SameF F T) {sz len : Nat} : ∀ {ps : List (Nat × Operand)} {xs : List X} {k : List X → RRX} {r}, xs.length = len → elsE E T sz len ps xs k = some r →
    ∃ xs', k xs' = some r ∧ ∀ t, LookOk t E F → ∃ l, partsR t sz ps = some l ∧ fillR (decR xs) l = some (decR xs')
  | [], xs, k, r, _, h => ⟨xs, h, fun t _ => ⟨[], rfl, rfl⟩⟩
  | (i, x) :: ps, xs, k, r, hl, h => by
    simp only [elsE] at h
    cases hb : Nat.blt i len with
    | false => rw [hb] at h; cases h
    | true =>
      rw [hb] at h
      have hi := blt_lt hb
      obtain ⟨y, h, h1⟩ := opd_some hT h
      obtain ⟨z, h, hc, hz, hp⟩ := elX_some h
      obtain ⟨xs', hk, ht⟩ := elsE_some hT (by rw [setX_eq, List.length_set]; exact hl) h
      refine ⟨xs', hk, fun t hl' => ?_⟩
      obtain ⟨l, g1, g2⟩ := ht t hl'
      refine ⟨(i, decL z.l) :: l, ?_, ?_⟩
      · simp only [partsR, h1 t hl', g1, hc]; rw [if_pos ⟨hz, hp⟩]
      · simp only [fillR]; rw [if_pos (by rw [decR_len]; omega), ← decR_set, ← setX_eq]; exact g2
theorem xNilc'_ok {p : X} {H : HX} {k : X → RRX} {r} (h : xNilc' p H k = some r) : ∃ y, k y = some r ∧ ∀ nm x, ∃ rd, Sh (.nilc x) nm (decH H) (fun t => ev t x = some p.dec) y.dec [] rd := by
  rcases iteX_some h with ⟨h1, h⟩ | ⟨_, h⟩
  · unfold nilF at h
    split at h
    · rename_i f cs hd
      obtain ⟨h2, h⟩ := ifX_some h
      refine ⟨_, h, fun nm x => ⟨[], Sh.of rfl fun t ht => ⟨True, ?_, rfl, ?_⟩⟩⟩ <;> rw [hd] at ht
      · rw [hd]; simp only [eff2, eff, ht, if_pos (blt_lt h2)]; rfl
      · simp only [rdOf, ht]; rfl
    · cases h
  · obtain ⟨y, h, hs⟩ := xNilc_ok h
    exact ⟨y, h, fun nm x => ⟨_, hs nm x⟩⟩
def OpOk (P : Program) (op : SOp) (nm : Nat) (E : Env) (F : Nat → X → Prop) (H : HX) (y : X) (u : Hp) (rd : List Nat) : Prop := ∀ t h o, LookOk t E F → HEq' h (decH H) → o.op = op →
  (∀ Q : List (Nat × AV) → Hp → Prop, Q (putA t o.dst y.dec) (u ++ h) → wpOper P nm o t h Q) ∧ (∀ k : Rec → Prop, k ⟨y.dec, u, rd⟩ → wpOpD P nm o t h k) ∧ (callO op = none → ∃ run H0, opX run nm o t H0 = some ⟨y.dec, u, rd⟩)
def run0 : RunT := fun _ _ _ _ => none
theorem run0_ok {P : Program} : RunOk P run0 := fun _ _ _ _ _ _ e => by cases e
theorem OpOk.of {P : Program} {op : SOp} {nm : Nat} {H : HX} {y : X} {u : Hp} {rd : List Nat} {p : List (Nat × AV) → Prop} (hs : Sh op nm (decH H) p y.dec u rd) (hp : ∀ t, LookOk t E F → p t) (hnc : callO op = none) : OpOk P op nm E F H y u rd := by
  intro t h o hl hh ho
  have hx := hs run0 t o (hp t hl) ho
  have hnc' : ∀ f as, o.op ≠ .call f as := by subst ho; exact callO_none hnc
  rw [← opX_heq hh hnc'] at hx
  exact ⟨fun Q hQ => opX_wp run0_ok hx _ hQ, fun k hk => opX_wpD run0_ok hx _ hk, fun _ => ⟨_, _, hx⟩⟩
def DenOk (P : Program) (op : SOp) (nm : Nat) (E : Env) (F : Nat → X → Prop) (H : HX) (O : List Use) (k : KX) (r : XRX) : Prop := ∃ y H' o u rd, k y H' (apO o O) = some r ∧ HEq' (u ++ decH H) (decH H') ∧ (Valid P o → OpOk P op nm E F H y u rd)
def pureK : SOp → Bool
  | .mov _ => true
  | .pick _ _ _ => true
  | .build _ _ => true
  | .bin _ _ _ => true
  | .eqs _ _ _ _ => true
  | .isnil _ _ => true
  | .un .not _ => true
  | .conv _ _ => true
  | .fld _ _ _ _ => true
  | .ext _ _ => true
  | _ => false
def DenQ (P : Program) (op : SOp) (nm : Nat) (E : Env) (F : Nat → X → Prop) (H : HX) (O : List Use) (k : KX) (r : XRX) : Prop := ∃ y o rd, k y H (apO o O) = some r ∧ (pureK op = true → rd = []) ∧ (Valid P o → OpOk P op nm E F H y [] rd)
theorem DenQ.den {P : Program} {op : SOp} {nm : Nat} {H : HX} {O : List Use} {k : KX} {r} (h : DenQ P op nm E F H O k r) : DenOk P op nm E F H O k r := by
  obtain ⟨y, o, rd, h1, _, h2⟩ := h
  exact ⟨y, H, o, [], rd, h1, fun _ => rfl, h2⟩
theorem DenQ.pure {P : Program} {op : SOp} {nm : Nat} {H : HX} {O : List Use} {k : KX} {r} {y : X} {rd : List Nat} {p : List (Nat × AV) → Prop} (h : k y H O = some r) (hs : Sh op nm (decH H) p y.dec [] rd) (hp : ∀ t, LookOk t E F → p t) (hnc : callO op = none) (hpk : pureK op = true → rd = [] := by first | exact fun _ => rfl | exact fun h => nomatch h) : DenQ P op nm E F H O k r :=
  ⟨y, [], rd, h, hpk, fun _ => OpOk.of hs hp hnc⟩
theorem DenOk.heap {P : Program} {op : SOp} {nm : Nat} {H H' : HX} {O : List Use} {k : KX} {r} {y : X} {u : Hp} {rd : List Nat} {p : List (Nat × AV) → Prop} (h : k y H' O = some r) (hh : HEq' (u ++ decH H) (decH H')) (hs : Sh op nm (decH H) p y.dec u rd) (hp : ∀ t, LookOk t E F → p t) (hnc : callO op = none) : DenOk P op nm E F H O k r :=
  ⟨y, H', [], u, rd, h, hh, fun _ => OpOk.of hs hp hnc⟩
def DenW (W : HX → Hp → List Nat → Prop) (P : Program) (op : SOp) (nm : Nat) (E : Env) (F : Nat → X → Prop) (H : HX) (O : List Use) (k : KX) (r : XRX) : Prop := ∃ y H' o u rd, k y H' (apO o O) = some r ∧ HEq' (u ++ decH H) (decH H') ∧ W H' u rd ∧ (Valid P o → OpOk P op nm E F H y u rd)
def ClOk (W : HX → HX → Hp → List Nat → Prop) (P : Program) (cl : ClX) : Prop := ∀ run, RunXOk P run → ∀ n nm H f ys O k r, cl run n nm H f ys O k = some r →
  ∃ y H' o u rd, k y H' (apO o O) = some r ∧ HEq' (u ++ decH H) (decH H') ∧ W H H' u rd ∧ (Valid P o → CallD P nm f (decL ys) (decH H) ⟨y.dec, u, rd⟩)
theorem denC_call {W : HX → HX → Hp → List Nat → Prop} {P : Program} {cl : ClX} (hcl : ClOk W P cl) {run : RunX} (hrun : RunXOk P run) {n nm : Nat} {H : HX} {O : List Use} {f : Operand} {args : List Operand} {k : KX} {r} {g : FuncId} {zs : List X} (h : cl run n nm H g zs O k = some r)
    (hc : ∀ t, LookOk t E F → ∀ Q : FuncId → List AV → Prop, Q g (decL zs) → onF (ev t f) (evL t args) Q) : DenW (W H) P (.call f args) nm E F H O k r := by
  obtain ⟨y, H', o, u, rd, h, hh, hW, hC⟩ := hcl run hrun _ _ _ _ _ _ _ _ h
  refine ⟨y, H', o, u, rd, h, hh, hW, fun hv t h1 o1 hl hh1 ho => ⟨fun Q hQ => ?_, fun k hk => ?_, fun h => (by cases h)⟩⟩
  · simp only [wpOper, ho]
    exact hc t hl _ ((hC hv) h1 (fun b _ => hh1 b) _ hQ)
  · simp only [wpOpD, ho]
    exact hc t hl _ ⟨_, fun h' hh2 => (hC hv) h' (fun b hb => (hh2 b hb).trans (hh1 b)), hk⟩
theorem denC_ok (hT : SameF F T) {W : HX → HX → Hp → List Nat → Prop} {P : Program} {cl : ClX} (hcl : ClOk W P cl) {run : RunX} (hrun : RunXOk P run) {n nm : Nat} {H : HX} {O : List Use} {f : Operand} {args : List Operand} {k : KX} {r} (h : denC cl run n nm T E H O f args k = some r) : DenW (W H) P (.call f args) nm E F H O k r := by
  have viaV : (opd E T f fun fv => opdL E T args fun ys => callV cl run n nm H fv ys O k) = some r → DenW (W H) P (.call f args) nm E F H O k r := fun h => by
    obtain ⟨fv, h, hf⟩ := opd_some hT h
    obtain ⟨ys, h, hys⟩ := opdL_some hT h
    unfold callV at h
    split at h
    · rename_i g caps hd
      cases hb : Nat.blt g 1000000 with
      | true =>
        rw [hb] at h
        refine denC_call hcl hrun h fun t hl Q hQ => ?_
        rw [hf t hl, hys t hl, hd, onF_fn, if_pos (blt_lt hb)]
        rw [appX_eq, decL_app, encL_dec] at hQ
        exact hQ
      | false =>
        rw [hb] at h
        cases hb2 : Nat.blt g 2000000 with
        | false => rw [hb2] at h; cases h
        | true =>
          rw [hb2] at h
          refine denC_call hcl hrun h fun t hl Q hQ => ?_
          have hge : ¬ g < 1000000 := fun hlt => by
            have : Nat.blt g 1000000 = true := Nat.ble_eq_true_of_le hlt
            rw [hb] at this; cases this
          rw [hf t hl, hys t hl, hd, onF_fn, if_neg hge, if_pos (blt_lt hb2)]
          rw [appX_eq, decL_app, encL_dec] at hQ
          exact hQ
    · cases h
  cases f with
  | func g =>
    simp only [denC] at h
    cases hb : Nat.blt g 1000000 with
    | false => rw [hb] at h; cases h
    | true =>
      rw [hb] at h
      obtain ⟨ys, h, hys⟩ := opdL_some hT h
      refine denC_call hcl hrun h fun t hl Q hQ => ?_
      simp only [ev]
      rw [if_pos (blt_lt hb), hys t hl, onF_fn, if_pos (blt_lt hb), List.append_nil]
      exact hQ
  | tmp j => exact viaV h
  | const c => exact viaV h
  | global g => exact viaV h
theorem clX_ok {P : Program} : ClOk (fun _ _ _ _ => True) P callX' := fun run hrun n nm H f ys O k r h => by
  obtain ⟨y, H', o, u, rd, h1, h2, h3⟩ := callX'_some hrun h
  exact ⟨y, H', o, u, rd, h1, h2, trivial, h3⟩
theorem clQ_ok {P : Program} : ClOk (fun H H' u _ => H' = H ∧ u = []) P callQ := fun run hrun n nm H f ys O k r h => by
  obtain ⟨y, o, rd, h1, _, h3⟩ := callQ_some hrun h
  exact ⟨y, H, o, [], rd, h1, fun _ => rfl, ⟨rfl, rfl⟩, h3⟩
theorem clP_ok {P : Program} : ClOk (fun H H' u rd => H' = H ∧ u = [] ∧ rd = []) P callPu := fun run hrun n nm H f ys O k r h => by
  obtain ⟨hp, h⟩ := ifX_some h
  obtain ⟨y, o, rd, h1, h2, h3⟩ := callQ_some hrun h
  exact ⟨y, H, o, [], rd, h1, fun _ => rfl, ⟨rfl, rfl, h2 hp⟩, h3⟩
theorem DenW.den {W : HX → Hp → List Nat → Prop} {P : Program} {op : SOp} {nm : Nat} {H : HX} {O : List Use} {k : KX} {r} (h : DenW W P op nm E F H O k r) : DenOk P op nm E F H O k r := by
  obtain ⟨y, H', o, u, rd, h1, h2, _, h3⟩ := h
  exact ⟨y, H', o, u, rd, h1, h2, h3⟩
theorem DenW.quiet {P : Program} {op : SOp} {nm : Nat} {H : HX} {O : List Use} {k : KX} {r} (hpk : pureK op = false) (h : DenW (fun H' u _ => H' = H ∧ u = []) P op nm E F H O k r) : DenQ P op nm E F H O k r := by
  obtain ⟨y, H', o, u, rd, h1, h2, ⟨rfl, rfl⟩, h3⟩ := h
  exact ⟨y, o, rd, h1, (fun e => by rw [hpk] at e; cases e), h3⟩
theorem denG_ok (hT : SameF F T) {P : Program} {n nm : Nat} {H : HX} {O : List Use} {op : SOp} {k : KX} {r} (hp : plainOp op = true) (hnc : callO op = none) (h : (tsE E T (dedL (tmpsO (opnds op))) fun ts => xGen op ts n nm H fun y H => k y H O) = some r) : DenOk P op nm E F H O k r := by
  obtain ⟨ts, h, ht⟩ := tsE_some hT h
  obtain ⟨y, H', u, rd, h, hh, hs⟩ := xGen_ok hp h
  exact DenOk.heap h hh hs (fun t hl j hj => ht t hl j (dedL_mem hj)) hnc
theorem orcK_bin {P : Program} {op : BinOp} {a b : X} {y' : Option X} {nm : Nat} {H : HX} {O : List Use} {k : KX} {r} {x y : Operand} (h : orcK y' (opB + opCode op) [a.dec, b.dec] H O k = some r) (h1 : ∀ t, LookOk t E F → ev t x = some a.dec) (h2 : ∀ t, LookOk t E F → ev t y = some b.dec) : DenQ P (.bin op x y) nm E F H O k r := by
  cases y' with
  | none => cases h
  | some c =>
    refine ⟨c, [⟨opB + opCode op, [a.dec, b.dec], [], c.dec, []⟩], [], h, fun _ => rfl, fun hv => ?_⟩
    obtain ⟨v, e1, e2⟩ := ((hv _ (List.mem_cons_self ..)).2 (Nat.le_add_right _ _)).1 op _ _ rfl rfl
    have e1 : c.dec = .v v := e1
    have hs := binV_ok (nm := nm) (H := decH H) (x := x) (z := y) e2
    rw [← e1] at hs
    exact OpOk.of hs (fun t hl => ⟨h1 t hl, h2 t hl⟩) rfl
theorem orcK_conv {P : Program} {q : IntKind} {a : X} {y' : Option X} {nm : Nat} {H : HX} {O : List Use} {k : KX} {r} {x : Operand} (h : orcK y' (opB + 100 + kCode q) [a.dec] H O k = some r) (h1 : ∀ t, LookOk t E F → ev t x = some a.dec) : DenQ P (.conv q x) nm E F H O k r := by
  cases y' with
  | none => cases h
  | some c =>
    refine ⟨c, [⟨opB + 100 + kCode q, [a.dec], [], c.dec, []⟩], [], h, fun _ => rfl, fun hv => ?_⟩
    obtain ⟨v, e1, e2⟩ := ((hv _ (List.mem_cons_self ..)).2 (by show opB ≤ opB + 100 + kCode q; omega)).2 q _ rfl rfl
    have e1 : c.dec = .v v := e1
    have hs : Sh (.conv q x) nm (decH H) (fun t => ev t x = some a.dec) c.dec [] [] := by
      rw [e1]
      refine Sh.of rfl fun t ht => ⟨True, ?_, rfl, rfl⟩
      unfold convV at e2
      split at e2
      · rename_i n hd
        cases e2
        rw [hd] at ht
        simp only [eff2, eff, ht]; rfl
      · cases e2
    exact OpOk.of hs h1 rfl
def quietK : SOp → Bool
  | .mov _ => true
  | .pick _ _ _ => true
  | .build _ _ => true
  | .load _ _ _ => true
  | .nilc _ => true
  | .bin _ _ _ => true
  | .eqs _ _ _ _ => true
  | .isnil _ _ => true
  | .un .not _ => true
  | .conv _ _ => true
  | .faddr _ _ => true
  | .fld _ _ _ _ => true
  | .iaddr _ _ _ => true
  | .len _ => true
  | .ext _ _ => true
  | .slice _ _ _ _ none => true
  | _ => false
theorem denQ_ok (hT : SameF F T) {P : Program} {orc : Option Orc} {run : RunX} (hrun : RunXOk P run) {n nm : Nat} {H : HX} {O : List Use} {op : SOp} {k : KX} {r} (hq : quietK op = true) (h : denP orc run n nm T E H O op k = some r) : DenQ P op nm E F H O k r := by
  cases op
  case mov x =>
    obtain ⟨y, h, h1⟩ := opd_some hT h
    exact DenQ.pure h (xMov_ok y nm _ x) h1 rfl
  case pick c a b =>
    obtain ⟨c', h, h1⟩ := opd_some hT h
    obtain ⟨a', h, h2⟩ := opd_some hT h
    obtain ⟨b', h, h3⟩ := opd_some hT h
    obtain ⟨y, h, hs⟩ := xPick_ok h
    exact DenQ.pure h (hs nm _ c a b) (fun t hl => ⟨h1 t hl, h2 t hl, h3 t hl⟩) rfl
  case build zs ps =>
    simp only [denP] at h
    cases hb : fitsB zs.length ps with
    | false => rw [hb] at h; cases h
    | true =>
      rw [hb] at h
      have hlen : (encL (zs.map AV.v)).length = zs.length := by rw [← decL_len, encL_dec, List.length_map]
      obtain ⟨cs, h, ht⟩ := partsE_some hT (fun p hp => by rw [hlen]; exact fitsB_ok hb p hp) h
      refine DenQ.pure (rd := []) (p := fun t => ∃ l, partsA t ps = some l ∧ fillA (decL (encL (zs.map AV.v))) l = some (decL cs)) h (Sh.of rfl fun t ht => ⟨True, ?_, rfl, rfl⟩) ht rfl
      obtain ⟨l, g1, g2⟩ := ht
      rw [encL_dec] at g2
      rw [dec_agg]
      simp only [eff2, eff, g1, g2]; rfl
  case load ag sz x =>
    cases ag with
    | true =>
      obtain ⟨p, h, h1⟩ := opd_some hT h
      obtain ⟨y, h, hs⟩ := xLdA_ok h
      exact DenQ.pure h (hs nm x) h1 rfl
    | false =>
      obtain ⟨p, h, h1⟩ := opd_some hT h
      obtain ⟨y, h, hs⟩ := xLd1_ok (sz := sz) h
      exact DenQ.pure h (hs nm x) h1 rfl
  case nilc x =>
    obtain ⟨p, h, h1⟩ := opd_some hT h
    obtain ⟨y, h, hs⟩ := xNilc'_ok h
    obtain ⟨rd, hs⟩ := hs nm x
    exact DenQ.pure h hs h1 rfl
  case bin op x y =>
    obtain ⟨a, h, h1⟩ := opd_some hT h
    obtain ⟨b, h, h2⟩ := opd_some hT h
    have plain : (xBin op a b fun y => k y H O) = some r → DenQ P (.bin op x y) nm E F H O k r := fun h => by
      obtain ⟨c, h, hs⟩ := xBin_ok op a b _ _ h
      exact DenQ.pure h (hs nm _ x y) (fun t hl => ⟨h1 t hl, h2 t hl⟩) rfl
    cases orc with
    | none => exact plain h
    | some f =>
      rcases iteX_some h with ⟨_, h⟩ | ⟨_, h⟩
      · exact orcK_bin h h1 h2
      · rcases iteX_some h with ⟨_, h⟩ | ⟨_, h⟩
        · exact orcK_bin h h1 h2
        · exact plain h
  case eqs neg ks x y =>
    obtain ⟨a, h, h1⟩ := opd_some hT h
    obtain ⟨b, h, h2⟩ := opd_some hT h
    obtain ⟨c, h, hs⟩ := xEqs_ok h
    exact DenQ.pure h (hs nm _ x y) (fun t hl => ⟨h1 t hl, h2 t hl⟩) rfl
  case isnil neg x =>
    obtain ⟨a, h, h1⟩ := opd_some hT h
    obtain ⟨c, h, hs⟩ := xIsnil_ok h
    exact DenQ.pure h (hs nm _ x) h1 rfl
  case un op x =>
    cases op with
    | not =>
      obtain ⟨a, h, h1⟩ := opd_some hT h
      obtain ⟨c, h, hs⟩ := xNot_ok h
      exact DenQ.pure h (hs nm _ x) h1 rfl
    | _ => cases hq
  case conv q x =>
    obtain ⟨a, h, h1⟩ := opd_some hT h
    have plain : (xConv q a fun y => k y H O) = some r → DenQ P (.conv q x) nm E F H O k r := fun h => by
      obtain ⟨c, h, hs⟩ := xConv_ok h
      exact DenQ.pure h (hs nm _ x) h1 rfl
    cases orc with
    | none => exact plain h
    | some f =>
      rcases iteX_some h with ⟨_, h⟩ | ⟨_, h⟩
      · exact orcK_conv h h1
      · exact plain h
  case faddr off x =>
    obtain ⟨a, h, h1⟩ := opd_some hT h
    obtain ⟨c, h, hs⟩ := xFaddr_ok h
    exact DenQ.pure h (hs nm x) h1 rfl
  case fld ag off sz x =>
    obtain ⟨a, h, h1⟩ := opd_some hT h
    obtain ⟨c, h, hs⟩ := xFld_ok h
    exact DenQ.pure h (hs nm _ x) h1 rfl
  case iaddr sz x i =>
    obtain ⟨a, h, h1⟩ := opd_some hT h
    obtain ⟨b, h, h2⟩ := opd_some hT h
    obtain ⟨c, h, hs⟩ := xIaddr_ok h
    exact DenQ.pure h (hs nm x i) (fun t hl => ⟨h1 t hl, h2 t hl⟩) rfl
  case len x =>
    obtain ⟨a, h, h1⟩ := opd_some hT h
    obtain ⟨c, h, hs⟩ := xLen_ok h
    exact DenQ.pure h (hs nm x) h1 rfl
  case ext i x =>
    obtain ⟨a, h, h1⟩ := opd_some hT h
    obtain ⟨c, h, hs⟩ := xExt_ok h
    exact DenQ.pure h (hs nm _ x) h1 rfl
  case slice sz x lo hi mx =>
    cases mx with
    | none =>
      obtain ⟨a, h, h1⟩ := opd_some hT h
      obtain ⟨l, h, h2⟩ := opdI_some hT h
      obtain ⟨q, h, h3⟩ := opdI_some hT h
      obtain ⟨y, h, hs⟩ := xSlice_ok h
      refine DenQ.pure h (hs nm x lo hi) (fun t hl => ⟨h1 t hl, ?_, h3 t hl⟩) rfl
      have := h2 t hl 0
      cases l <;> exact this
    | some m => cases hq
  all_goals cases hq
theorem denP_ok (hT : SameF F T) {P : Program} {orc : Option Orc} {run : RunX} (hrun : RunXOk P run) {n nm : Nat} {H : HX} {O : List Use} {op : SOp} {k : KX} {r} (h : denP orc run n nm T E H O op k = some r) : DenOk P op nm E F H O k r := by
  cases hq : quietK op with
  | true => exact (denQ_ok hT hrun hq h).den
  | false =>
  cases op
  case alloc zs =>
    have h : xAlloc nm (encL (zs.map .v)) H (fun y H => k y H O) = some r := h
    obtain ⟨y, H', u, h, hh, hs⟩ := xAlloc_ok (vs := zs) h (encL_dec _)
    exact DenOk.heap h hh hs (fun _ _ => trivial) rfl
  case box x =>
    obtain ⟨a, h, h1⟩ := opd_some hT h
    obtain ⟨y, H', u, h, hh, hs⟩ := xBox_ok h
    exact DenOk.heap h hh (hs x) h1 rfl
  case bslice e sz zs len ps =>
    have hlen : (repX len ⟨2, encL (zs.map AV.v), oZ⟩).length = len := by rw [repX_eq, List.length_replicate]
    obtain ⟨xs, h, ht⟩ := elsE_some hT hlen h
    obtain ⟨y, H', h, hy, hH, hl⟩ := xRow_some h
    refine DenOk.heap (u := [(nm, .row e sz (decR xs))]) (rd := []) h (fun k => by rw [hH]; rfl) (Sh.of rfl fun t ht => ⟨True, ?_, rfl, rfl⟩) ht rfl
    obtain ⟨l, g1, g2⟩ := ht
    rw [hy]
    have e1 : decR (repX len ⟨2, encL (zs.map AV.v), oZ⟩) = List.replicate len (zs.map AV.v) := by rw [repX_eq, decR_map, List.map_replicate, encL_dec]
    rw [e1] at g2
    simp only [eff2, eff, g1, g2]
  case store sz x y =>
    obtain ⟨p, h, h1⟩ := opd_some hT h
    obtain ⟨z, h, h2⟩ := opd_some hT h
    cases hb : Nat.beq sz 1 with
    | true =>
      simp only [hb] at h
      rw [Nat.eq_of_beq_eq_true hb]
      obtain ⟨H', u, h, hh, hs⟩ := xSt1_ok h
      refine DenOk.heap (y := xU) (rd := p.dec.nms) (p := fun t => ev t x = some p.dec ∧ ev t y = some z.dec) h hh ?_ (fun t hl => ⟨h1 t hl, h2 t hl⟩) rfl
      rw [dec_U]; exact hs nm x y
    | false =>
      simp only [hb] at h
      obtain ⟨H', u, h, hh, hs⟩ := xStA_ok h
      refine DenOk.heap (y := xU) (rd := p.dec.nms) (p := fun t => ev t x = some p.dec ∧ ev t y = some z.dec) h hh ?_ (fun t hl => ⟨h1 t hl, h2 t hl⟩) rfl
      rw [dec_U]; exact hs nm x y
  case mkslice e sz bytes zs l c =>
    obtain ⟨a, h, h1⟩ := opd_some hT h
    obtain ⟨b, h, h2⟩ := opd_some hT h
    obtain ⟨y, H', u, h, hh, hs⟩ := xMks_ok h (zs := zs) (encL_dec _)
    exact DenOk.heap h hh (hs l c) (fun t hl => ⟨h1 t hl, h2 t hl⟩) rfl
  case app e sz bytes zs s x =>
    obtain ⟨a, h, h1⟩ := opd_some hT h
    obtain ⟨b, h, h2⟩ := opd_some hT h
    obtain ⟨y, H', u, h, hh, hs⟩ := xApp_ok h
    exact DenOk.heap h hh (hs zs s x) (fun t hl => ⟨h1 t hl, h2 t hl⟩) rfl
  case copy sz d x =>
    obtain ⟨a, h, h1⟩ := opd_some hT h
    obtain ⟨b, h, h2⟩ := opd_some hT h
    obtain ⟨y, H', u, h, hh, hs⟩ := xCopy_ok h
    exact DenOk.heap h hh (hs nm d x) (fun t hl => ⟨h1 t hl, h2 t hl⟩) rfl
  case call f args => exact (denC_ok hT clX_ok hrun h).den
  case un op x =>
    cases op with
    | not => cases hq
    | _ => exact denG_ok hT (n := n) rfl rfl h
  case slice sz x lo hi mx =>
    cases mx with
    | none => cases hq
    | some m => exact denG_ok hT (n := n) rfl rfl h
  all_goals first | cases hq; done | exact denG_ok hT (n := n) rfl rfl h
end
end Go.Eng

namespace Go.Eng
open Go
abbrev RgS := RunX → Nat → FX → HX → List Use → RRX
noncomputable section
def grdX (want : Bool) (v : X) (H : HX) (O : List Use) (a : KX → RRX) (k : KX) : RRX := iteX (isT v 1) (iteX (@Bool.rec (fun _ => Bool) (notX (boolX v)) (boolX v) want) (a k) (k xU H O)) (ifX (isT v 11) (k xU H O))
def denO (orc : Option Orc) (run : RunX) (n : Nat) (T : Env0) (fin : Env → HX → List Use → RRX) : List SOper → Nat → Env → HX → List Use → RRX
  | [], _, E, H, O => fin E H O
  | o :: l, d, E, H, O => match o.guard with
    | none => denP orc run n (Nat.add n d) T E H O o.op fun y H O => denO orc run n T fin l (d + 8) (putE E o.dst y) H O
    | some (g, want) => opd E T (.tmp g) fun v => grdX want v H O (fun k => denP orc run n (Nat.add n d) T E H O o.op k) fun y H O => denO orc run n T fin l (d + 8) (putE E o.dst y) H O
def outG (G : List Nat) (E : Env) (T : Env0) : List (Option X) := G.map fun k => match get E k with
  | some y => some y
  | none => rd0 T k
def zip0 : List Nat → List (Option X) → Env0
  | k :: G, c :: l => (k, c) :: zip0 G l
  | _, _ => []
def endG (G : List Nat) (m : Nat) (len n : Nat) (T : Env0) (R : FX) (E : Env) (H : HX) (O : List Use) : RRX := cndB ((G.drop (4 * m)).all (fun k => (get E k).isNone)) (some ⟨.normal, Nat.add n (8 * len), clsX m (outG (G.take (4 * m)) E T) R, H, O⟩) none
def posM (G : List Nat) (k : Nat) : Nat := match posG G k with
  | some i => i / 4 + 1
  | none => 0
def needM (G : List Nat) : List SOper → Nat
  | [] => 0
  | o :: l => Nat.max (needM G l) ((uses o ++ o.dst.toList).foldr (fun k m => Nat.max m (posM G k)) 0)
def regX (orc : Option Orc) (G : List Nat) (ops : List SOper) : RgS := fun run n T H O => opnX (needM G ops) T fun l R =>
  denO orc run n (zip0 (G.take (4 * needM G ops)) l) (endG G (needM G ops) ops.length n (zip0 (G.take (4 * needM G ops)) l) R) ops 0 [] H O
def frYgo (T : FX) : List Nat → Nat → Fr
  | [], _ => fr0
  | k :: l, p => match rdS p T with
    | some x => wrT k (frYgo T l (p + 1)) x.dec
    | none => frYgo T l (p + 1)
def frY (G : List Nat) (T : FX) : Fr := frYgo T G 0
def optE (x : Option AV) : Option X := match x with
  | some x => some (enc x)
  | none => none
def fromF (G : List Nat) (F : Fr) : FX := clsX (G.length / 4 + 1) (G.map fun k => optE (rdT k F)) .nil
def slowY (G : List Nat) (st : Stm) : RgS := fun run n T H O => match st (toO run) n (frY G T) (decH H) O with
  | some ⟨e, n', T', H', O'⟩ => some ⟨e, n', fromF G T', encH H', O'⟩
  | none => none
end
def VG (G : List Nat) (t : List (Nat × AV)) (T : FX) : Prop := ∀ p k x, G[p]? = some k → gtF T p = some x → get t k = some x.dec
def FR (G : List Nat) (T : FX) (k : Nat) (x : X) : Prop := ∃ p : Nat, G[p]? = some k ∧ gtF T p = some x
theorem VG.lookOk {G : List Nat} {t : List (Nat × AV)} {T : FX} (h : VG G t T) : LookOk t [] (FR G T) := ⟨fun k x hk => (by cases hk), fun k x _ hT => by obtain ⟨p, h1, h2⟩ := hT; exact h p k x h1 h2⟩
theorem zip0_get : ∀ {G : List Nat} {l : List (Option X)} {k : Nat} {c : Option X}, get (zip0 G l) k = some c → ∃ p : Nat, G[p]? = some k ∧ l[p]? = some c
  | [], l, k, c, h => by simp [zip0, get] at h
  | j :: G, [], k, c, h => by simp [zip0, get] at h
  | j :: G, d :: l, k, c, h => by
    simp only [zip0, get] at h
    split at h
    · rename_i e; cases h; exact ⟨0, by rw [e]; rfl, rfl⟩
    · obtain ⟨p, h1, h2⟩ := zip0_get h
      exact ⟨p + 1, by simpa using h1, by simpa using h2⟩
theorem zip0_same {G : List Nat} {m : Nat} {T R : FX} {l : List (Option X)} (hl : l.length = 4 * m) (hT : T.l = l ++ R.l) : SameF (FR G T) (zip0 (G.take (4 * m)) l) := by
  intro k x h
  unfold rd0 at h
  split at h
  · rename_i c hc
    subst h
    obtain ⟨p, h1, h2⟩ := zip0_get hc
    have hp : p < l.length := (List.getElem?_eq_some_iff.1 h2).1
    refine ⟨p, ?_, ?_⟩
    · rw [List.getElem?_take] at h1
      split at h1
      · exact h1
      · cases h1
    · unfold gtF
      rw [hT, List.getElem?_append_left hp, h2]; rfl
  · cases h
theorem endG_some {G : List Nat} {m len n : Nat} {T R : FX} {l : List (Option X)} {E : Env} {H : HX} {O : List Use} {r : XRX} (hl : l.length = 4 * m) (hT : T.l = l ++ R.l) (h : endG G m len n (zip0 (G.take (4 * m)) l) R E H O = some r) :
    ∃ T', r = ⟨.normal, n + 8 * len, T', H, O⟩ ∧ ∀ t, LookOk t E (FR G T) → VG G t T' := by
  unfold endG at h
  generalize hb : (G.drop (4 * m)).all (fun k => (get E k).isNone) = q at h
  cases q with
  | false => cases h
  | true =>
    simp only [Option.some.injEq] at h
    subst h
    refine ⟨_, rfl, fun t hl' p k x hk hx => ?_⟩
    rw [clsX_get] at hx
    split at hx
    · rename_i hp
      have hkt : (G.take (4 * m))[p]? = some k := by rw [List.getElem?_take, if_pos hp]; exact hk
      simp only [outG, List.getElem?_map, hkt, Option.map_some, Option.getD_some] at hx
      split at hx
      · rename_i y hy; cases hx; exact hl'.1 k _ hy
      · rename_i hn
        exact hl'.2 k x hn (zip0_same hl hT k x hx)
    · rename_i hp
      have hkd : k ∈ G.drop (4 * m) := by
        refine List.mem_of_getElem? (i := p - 4 * m) ?_
        rw [List.getElem?_drop, show 4 * m + (p - 4 * m) = p by omega]; exact hk
      have hn := List.all_eq_true.1 hb k hkd
      have hn : get E k = none := by cases hg : get E k with
        | none => rfl
        | some y => rw [hg] at hn; cases hn
      refine hl'.2 k x hn ⟨p, hk, ?_⟩
      unfold gtF at hx ⊢
      rw [hT, List.getElem?_append_right (by omega), hl]; exact hx
theorem frYgo_view {G : List Nat} {t : List (Nat × AV)} {T : FX} (hv : VG G t T) : ∀ (l : List Nat) (p : Nat), G.drop p = l → View t (frYgo T l p)
  | [], p, _ => fun k x h => by simp only [frYgo, getT_fr0] at h; cases h
  | j :: l, p, hd => by
    have hj : G[p]? = some j := by
      have := congrArg (·[0]?) hd
      simpa [List.getElem?_drop] using this
    have hl : G.drop (p + 1) = l := by
      have := congrArg List.tail hd
      simpa using this
    simp only [frYgo]
    split
    · rename_i y hy
      intro k x h
      by_cases e : k = j
      · subst e
        rcases wrT_self h with rfl | h
        · exact hv p k y hj (rdS_get hy)
        · exact frYgo_view hv l (p + 1) hl k x h
      · rw [wrT_ne e] at h; exact frYgo_view hv l (p + 1) hl k x h
    · exact frYgo_view hv l (p + 1) hl
theorem frY_view {G : List Nat} {t : List (Nat × AV)} {T : FX} (hv : VG G t T) : View t (frY G T) := frYgo_view hv G 0 rfl
theorem fromF_view {t : List (Nat × AV)} {F : Fr} (hv : View t F) (G : List Nat) : VG G t (fromF G F) := by
  intro p k x hk hx
  unfold fromF at hx
  rw [clsX_get] at hx
  have hp : p < G.length := (List.getElem?_eq_some_iff.1 hk).1
  rw [if_pos (by omega)] at hx
  simp only [List.getElem?_map, hk, Option.map_some, Option.getD_some] at hx
  unfold optE at hx
  split at hx
  · rename_i a ha; cases hx; rw [enc_dec]; exact hv k a (rdT_get ha)
  · cases hx
def RgOk (P : Program) (G : List Nat) (k : RgS) (sc : SCode) : Prop := ∀ run, RunXOk P run → ∀ n T H O e n' T' H' O', k run n T H O = some ⟨e, n', T', H', O'⟩ →
  (∃ L, O' = L ++ O) ∧ (Valid P O' → ∀ t h, VG G t T → HEq' h (decH H) → ∃ t' h', VG G t' T' ∧ HEq' h' (decH H') ∧ Goes P sc ⟨n, t, h⟩ e ⟨n', t', h'⟩)
theorem grdX_some {want : Bool} {v : X} {H : HX} {O : List Use} {a : KX → RRX} {k : KX} {r} (h : grdX want v H O a k = some r) :
    (∃ b : Bool, v.dec = .v (.bool b) ∧ ((b = want ∧ a k = some r) ∨ (b ≠ want ∧ k xU H O = some r))) ∨ (v.dec = .v undef ∧ k xU H O = some r) := by
  rcases iteX_some h with ⟨h1, h⟩ | ⟨_, h⟩
  · refine .inl ⟨boolX v, boolX_dec h1, ?_⟩
    rcases iteX_some h with ⟨h2, h⟩ | ⟨h2, h⟩
    · refine .inl ⟨?_, h⟩
      cases want <;> simp_all [notX_eq]
    · refine .inr ⟨?_, h⟩
      cases want <;> simp_all [notX_eq]
  · obtain ⟨h1, h⟩ := ifX_some h
    exact .inr ⟨X.dec11 (isT_eq h1), h⟩
theorem HEq'.app (u : Hp) {a b : Hp} (hab : HEq' a b) : HEq' (u ++ a) (u ++ b) := by
  induction u with
  | nil => exact hab
  | cons p u ih => intro k; simp only [List.cons_append]; obtain ⟨j, o⟩ := p; exact HEq'.cons ih j o k
theorem denO_ok {P : Program} {orc : Option Orc} {run : RunX} (hrun : RunXOk P run) {n : Nat} {T : Env0} {F : Nat → X → Prop} (hT : SameF F T) {fin : Env → HX → List Use → RRX} : ∀ (l : List SOper) (d : Nat) (E : Env) (H : HX) (O : List Use) r,
    denO orc run n T fin l d E H O = some r → ∃ E' H' O', fin E' H' O' = some r ∧ (∃ L, O' = L ++ O) ∧ (Valid P O' → ∀ t h, LookOk t E F → HEq' h (decH H) → ∃ t' h', LookOk t' E' F ∧ HEq' h' (decH H') ∧ ∀ Q : List (Nat × AV) → Hp → Prop, Q t' h' → wpOps P (n + d) l t h Q)
  | [], d, E, H, O, r, h => ⟨E, H, O, h, ⟨[], rfl⟩, fun _ t h hl hh => ⟨t, h, hl, hh, fun Q hQ => hQ⟩⟩
  | o :: l, d, E, H, O, r, h => by
    simp only [denO] at h
    -- the operation, then the rest
    have doit : (denP orc run n (Nat.add n d) T E H O o.op fun y H O => denO orc run n T fin l (d + 8) (putE E o.dst y) H O) = some r →
        ∃ E' H' O', fin E' H' O' = some r ∧ (∃ L, O' = L ++ O) ∧ (Valid P O' → ∀ t h, LookOk t E F → HEq' h (decH H) → ∃ t' h', LookOk t' E' F ∧ HEq' h' (decH H') ∧ ∀ Q : List (Nat × AV) → Hp → Prop, Q t' h' → wpOper P (n + d) o t h fun t h => wpOps P (n + d + 8) l t h Q) := fun h => by
      obtain ⟨y, H1, o1, u, rd, h1, hh1, hop⟩ := denP_ok hT hrun h
      obtain ⟨E', H', O', hfin, ⟨L, hL⟩, hs⟩ := denO_ok hrun hT l (d + 8) _ _ _ _ h1
      rw [apO_eq] at hL
      refine ⟨E', H', O', hfin, ⟨L ++ o1, by rw [hL, List.append_assoc]⟩, fun hv t h2 hl hh => ?_⟩
      have hv1 : Valid P o1 := by rw [hL] at hv; exact hv.app.2.app.1
      obtain ⟨t', h', g1, g2, g3⟩ := hs hv _ _ (hl.put o.dst y) (HEq'.trans (HEq'.app u hh) hh1)
      refine ⟨t', h', g1, g2, fun Q hQ => ?_⟩
      have g4 := g3 Q hQ
      rw [show n + (d + 8) = n + d + 8 by omega] at g4
      exact ((hop hv1) t h2 o hl hh rfl).1 _ g4
    cases hg : o.guard with
    | none =>
      rw [hg] at h
      obtain ⟨E', H', O', hfin, h1, h2⟩ := doit h
      refine ⟨E', H', O', hfin, h1, fun hv t h hl hh => ?_⟩
      obtain ⟨t', h', h3, h4, h5⟩ := h2 hv t h hl hh
      refine ⟨t', h', h3, h4, fun Q hQ => ?_⟩
      simp only [wpOps, hg]
      exact h5 Q hQ
    | some gw =>
      obtain ⟨g, want⟩ := gw
      rw [hg] at h
      simp only at h
      obtain ⟨v, h, hgt⟩ := opd_some hT h
      have hgt : ∀ t, LookOk t E F → get t g = some v.dec := hgt
      have skip : denO orc run n T fin l (d + 8) (putE E o.dst xU) H O = some r → ∃ E' H' O', fin E' H' O' = some r ∧ (∃ L, O' = L ++ O) ∧ (Valid P O' → ∀ t h, LookOk t E F → HEq' h (decH H) → ∃ t' h', LookOk t' E' F ∧ HEq' h' (decH H') ∧ ∀ Q : List (Nat × AV) → Hp → Prop, Q t' h' → wpOps P (n + d + 8) l (putA t o.dst (.v undef)) h Q) := fun h => by
        obtain ⟨E', H', O', hfin, h1, h2⟩ := denO_ok hrun hT l (d + 8) _ _ _ _ h
        refine ⟨E', H', O', hfin, h1, fun hv t h hl hh => ?_⟩
        have hp := hl.put o.dst xU
        rw [dec_U] at hp
        obtain ⟨t', h', h3, h4, h5⟩ := h2 hv _ h hp hh
        exact ⟨t', h', h3, h4, fun Q hQ => by have := h5 Q hQ; rw [show n + (d + 8) = n + d + 8 by omega] at this; exact this⟩
      rcases grdX_some h with ⟨b, hb, ⟨hw, h⟩ | ⟨hw, h⟩⟩ | ⟨hb, h⟩
      · obtain ⟨E', H', O', hfin, h1, h2⟩ := doit h
        refine ⟨E', H', O', hfin, h1, fun hv t h hl hh => ?_⟩
        obtain ⟨t', h', h3, h4, h5⟩ := h2 hv t h hl hh
        refine ⟨t', h', h3, h4, fun Q hQ => ?_⟩
        have h6 := h5 Q hQ
        simp only [wpOps, hg, hgt t hl, hb, onG_bool]
        cases b <;> cases want <;> simp_all [Split]
      · obtain ⟨E', H', O', hfin, h1, h2⟩ := skip h
        refine ⟨E', H', O', hfin, h1, fun hv t h hl hh => ?_⟩
        obtain ⟨t', h', h3, h4, h5⟩ := h2 hv t h hl hh
        refine ⟨t', h', h3, h4, fun Q hQ => ?_⟩
        have h6 := h5 Q hQ
        simp only [wpOps, hg, hgt t hl, hb, onG_bool]
        cases b <;> cases want <;> simp_all [Split]
      · obtain ⟨E', H', O', hfin, h1, h2⟩ := skip h
        refine ⟨E', H', O', hfin, h1, fun hv t h hl hh => ?_⟩
        obtain ⟨t', h', h3, h4, h5⟩ := h2 hv t h hl hh
        refine ⟨t', h', h3, h4, fun Q hQ => ?_⟩
        simp only [wpOps, hg, hgt t hl, hb]
        exact h5 Q hQ
theorem regX_ok {P : Program} {orc : Option Orc} {G : List Nat} {ops : List SOper} : RgOk P G (regX orc G ops) (.region ops false) := by
  intro run hrun n T H O e n' T' H' O' h
  obtain ⟨l, R, h, hl, hT⟩ := opnX_some h
  obtain ⟨E', H1, O1, hfin, h1, h2⟩ := denO_ok hrun (zip0_same (G := G) hl hT) ops 0 [] _ _ _ h
  obtain ⟨T1, hr, hv1⟩ := endG_some hl hT hfin
  simp only [XRX.mk.injEq] at hr
  obtain ⟨rfl, rfl, rfl, rfl, rfl⟩ := hr
  refine ⟨h1, fun hv t h hvw hh => ?_⟩
  obtain ⟨t', h', h3, h4, h5⟩ := h2 hv t h hvw.lookOk hh
  refine ⟨t', h', hv1 t' h3, h4, fun Q hQ => Wps.of ?_⟩
  simp only [wpc, Bool.false_eq_true, if_false]
  exact h5 (fun t h => Q .normal ⟨n + 8 * ops.length, t, h⟩) hQ
theorem slowY_ok {P : Program} {G : List Nat} {st : Stm} {sc : SCode} (hst : StmOk P st sc) : RgOk P G (slowY G st) sc := by
  intro run hrun n T H O e n' T' H' O' h
  simp only [slowY] at h
  split at h
  · rename_i e1 n1 T1 H1 O1 h1
    simp only [Option.some.injEq, XRX.mk.injEq] at h
    obtain ⟨rfl, rfl, rfl, rfl, rfl⟩ := h
    obtain ⟨hL, hs⟩ := hst _ (toO_ok hrun) _ _ _ _ _ _ _ _ _ h1
    refine ⟨hL, fun hv t h hvg hh => ?_⟩
    obtain ⟨t', h', g1, g2, g3⟩ := hs hv t h (frY_view hvg) hh
    exact ⟨t', h', fromF_view g1 G, by rw [encH_dec]; exact g2, g3⟩
  · cases h
end Go.Eng

namespace Go.Eng
open Go
def freeO (bef : List Nat) (pk : List Bool) (j : Nat) : Bool := (List.range pk.length).all fun i => Nat.beq i j || ((bif Nat.blt i j then (bef.getD j 0).testBit i else (bef.getD i 0).testBit j) || pk.getD i false)
noncomputable section
abbrev denPC (run : RunX) (n nm : Nat) (T : Env0) (E : Env) (H : HX) (O : List Use) (op : SOp) (k : KX) : RRX := match op with
  | .call f args => denC callQ run n nm T E H O f args k
  | _ => none
def denPQ (orc : Option Orc) (run : RunX) (n nm : Nat) (T : Env0) (E : Env) (H : HX) (O : List Use) (op : SOp) (k : KX) : RRX := cndB (quietK op) (denP orc run n nm T E H O op k) (denPC run n nm T E H O op k)
def denPF (fr : Bool) (orc : Option Orc) (run : RunX) (n nm : Nat) (T : Env0) (E : Env) (H : HX) (O : List Use) (op : SOp) (k : KX) : RRX := cndB fr (denP orc run n nm T E H O op k) (denPQ orc run n nm T E H O op k)
def denD (orc : Option Orc) (pk : List Bool) (bef : List Nat) (run : RunX) (n : Nat) (T : Env0) (fin : Env → HX → List Use → RRX) : List SOper → Nat → Nat → Env → HX → List Use → RRX
  | [], _, _, E, H, O => fin E H O
  | o :: l, j, d, E, H, O => match o.guard with
    | none => denPF (freeO bef pk j) orc run n (Nat.add n d) T E H O o.op fun y H O => denD orc pk bef run n T fin l (j + 1) (d + 8) (putE E o.dst y) H O
    | some (g, want) => opd E T (.tmp g) fun v => grdX want v H O (fun k => denPF (freeO bef pk j) orc run n (Nat.add n d) T E H O o.op k) fun y H O => denD orc pk bef run n T fin l (j + 1) (d + 8) (putE E o.dst y) H O
def pkOf (ops : List SOper) : List Bool := ops.map fun o => pureK o.op
def regD (orc : Option Orc) (G : List Nat) (ops : List SOper) : RgS := fun run n T H O => opnX (needM G ops) T fun l R =>
  denD orc (pkOf ops) (befOf ops) run n (zip0 (G.take (4 * needM G ops)) l) (endG G (needM G ops) ops.length n (zip0 (G.take (4 * needM G ops)) l) R) ops 0 0 [] H O
end
theorem pure_quiet {op : SOp} (h : pureK op = true) : quietK op = true := by
  unfold pureK at h
  split at h <;> first | rfl | cases h
theorem denPF_ok {P : Program} {fr : Bool} {orc : Option Orc} {run : RunX} (hrun : RunXOk P run) {n nm : Nat} {T : Env0} {F : Nat → X → Prop} (hT : SameF F T) {E : Env} {H : HX} {O : List Use} {op : SOp} {k : KX} {r} (h : denPF fr orc run n nm T E H O op k = some r) :
    ∃ y H' o u rd, k y H' (apO o O) = some r ∧ HEq' (u ++ decH H) (decH H') ∧ (fr = false → u = []) ∧ (pureK op = true → u = [] ∧ rd = []) ∧ (Valid P o → OpOk P op nm E F H y u rd) := by
  have hqp : pureK op = true → quietK op = true := pure_quiet
  cases hq : quietK op with
  | true =>
    have h : denP orc run n nm T E H O op k = some r := by
      cases fr with
      | true => exact h
      | false =>
        have h : denPQ orc run n nm T E H O op k = some r := h
        unfold denPQ at h
        rw [hq] at h
        exact h
    obtain ⟨y, o, rd, h1, hp, h3⟩ := denQ_ok hT hrun hq h
    exact ⟨y, H, o, [], rd, h1, fun _ => rfl, fun _ => rfl, fun e => ⟨rfl, hp e⟩, h3⟩
  | false =>
    have hpk : pureK op = false := by
      cases hp : pureK op with
      | false => rfl
      | true => rw [hqp hp] at hq; cases hq
    cases fr with
    | true =>
      obtain ⟨y, H', o, u, rd, h1, h2, h3⟩ := denP_ok hT hrun (show denP orc run n nm T E H O op k = some r from h)
      exact ⟨y, H', o, u, rd, h1, h2, fun h => (by cases h), fun e => (by rw [hpk] at e; cases e), h3⟩
    | false =>
      have h : denPQ orc run n nm T E H O op k = some r := h
      have key : DenQ P op nm E F H O k r := by
        unfold denPQ at h
        rw [hq] at h
        have h : denPC run n nm T E H O op k = some r := h
        unfold denPC at h
        split at h
        · exact (denC_ok hT clQ_ok hrun h).quiet rfl
        · cases h
      obtain ⟨y, o, rd, h1, _, h3⟩ := key
      exact ⟨y, H, o, [], rd, h1, fun _ => rfl, fun _ => rfl, fun e => (by rw [hpk] at e; cases e), h3⟩
def AccOk (bef : List Nat) (pk : List Bool) (acc : List Foot) : Prop := ∀ i x, acc.reverse[i]? = some x → (freeO bef pk i = false → x.2 = []) ∧ (pk.getD i false = true → x = ([], []))
theorem AccOk.cons {bef : List Nat} {pk : List Bool} {acc : List Foot} {f : Foot} (h : AccOk bef pk acc) (hf : (freeO bef pk acc.length = false → f.2 = []) ∧ (pk.getD acc.length false = true → f = ([], []))) : AccOk bef pk (f :: acc) := by
  intro i x hi
  rw [List.reverse_cons] at hi
  rcases Nat.lt_or_ge i acc.reverse.length with hlt | hge
  · rw [List.getElem?_append_left hlt] at hi; exact h i x hi
  · rw [List.getElem?_append_right hge] at hi
    have : i = acc.length := by
      have := (List.getElem?_eq_some_iff.1 hi).1
      simp only [List.length_singleton] at this
      rw [List.length_reverse] at this hge
      omega
    subst this
    simp only [List.length_reverse, Nat.sub_self, List.getElem?_cons_zero, Option.some.injEq] at hi
    subst hi
    exact hf
theorem freeO_ord {bef : List Nat} {pk : List Bool} {i k : Nat} (hi : i < k) (hk : k < pk.length) :
    (freeO bef pk i = true → (bef.getD k 0).testBit i = true ∨ pk.getD k false = true) ∧ (freeO bef pk k = true → (bef.getD k 0).testBit i = true ∨ pk.getD i false = true) := by
  refine ⟨fun h => ?_, fun h => ?_⟩
  · have := List.all_eq_true.1 h k (List.mem_range.2 hk)
    simp only [Bool.or_eq_true] at this
    rcases this with h1 | h1 | h1
    · have := Nat.eq_of_beq_eq_true h1; omega
    · have hb : Nat.blt k i = false := by
        cases hb : Nat.blt k i with
        | false => rfl
        | true => have := blt_lt hb; omega
      rw [hb] at h1; exact .inl h1
    · exact .inr h1
  · have := List.all_eq_true.1 h i (List.mem_range.2 (by omega))
    simp only [Bool.or_eq_true] at this
    rcases this with h1 | h1 | h1
    · have := Nat.eq_of_beq_eq_true h1; omega
    · have hb : Nat.blt i k = true := Nat.ble_eq_true_of_le hi
      rw [hb] at h1; exact .inl h1
    · exact .inr h1
theorem clean_acc {bef : List Nat} {pk : List Bool} {acc : List Foot} (ha : AccOk bef pk acc) {i k : Nat} {x y : Foot} (hi : i < k) (hk : k < pk.length) (hx : acc.reverse[i]? = some x) (hy : acc.reverse[k]? = some y) : ((bef.getD k 0).testBit i || clean x y) = true := by
  obtain ⟨x1, x2⟩ := ha i x hx
  obtain ⟨y1, y2⟩ := ha k y hy
  have c1 : ∀ w : Foot, clean ([], []) w = true := fun w => by
    obtain ⟨a, b⟩ := w
    cases b <;> simp [clean, offB]
  have c2 : ∀ w : Foot, clean w ([], []) = true := fun w => by
    obtain ⟨a, b⟩ := w
    cases b <;> simp [clean, offB]
  have hc : (bef.getD k 0).testBit i = true ∨ clean x y = true := by
    obtain ⟨f1, f2⟩ := freeO_ord (bef := bef) (pk := pk) hi hk
    cases h1 : freeO bef pk i with
    | true =>
      rcases f1 h1 with h | h
      · exact .inl h
      · rw [y2 h]; exact .inr (c2 x)
    | false =>
      cases h2 : freeO bef pk k with
      | true =>
        rcases f2 h2 with h | h
        · exact .inl h
        · rw [x2 h]; exact .inr (c1 y)
      | false => right; unfold clean; rw [x1 h1, y1 h2]
  rcases hc with h | h <;> rw [h] <;> simp
theorem denD_ok {P : Program} {orc : Option Orc} {ops : List SOper} (hst : statOk ops = true) {run : RunX} (hrun : RunXOk P run) {n : Nat} {T : Env0} {F : Nat → X → Prop} (hT : SameF F T) {fin : Env → HX → List Use → RRX} : ∀ (l : List SOper) (j d : Nat) (E : Env) (H : HX) (O : List Use) r,
    j ≤ ops.length → ops.drop j = l → denD orc (pkOf ops) (befOf ops) run n T fin l j d E H O = some r → ∃ E' H' O', fin E' H' O' = some r ∧ (∃ L, O' = L ++ O) ∧ (Valid P O' → ∀ acc t h, acc.length = j → AccOk (befOf ops) (pkOf ops) acc → LookOk t E F → HEq' h (decH H) →
      ∃ t' h', LookOk t' E' F ∧ HEq' h' (decH H') ∧ ∀ Q : List (Nat × AV) → Hp → Prop, Q t' h' → wpDrawL P (n + d) l acc t h fun acc t h => okDraw ops acc.reverse = true ∧ Q t h)
  | [], j, d, E, H, O, r, hjl, hj, h => by
    refine ⟨E, H, O, h, ⟨[], rfl⟩, fun _ acc t h ha hacc hl hh => ⟨t, h, hl, hh, fun Q hQ => ⟨?_, hQ⟩⟩⟩
    have hj : ops.length ≤ j := List.drop_eq_nil_iff.1 hj
    refine okDraw_dyn hst (by rw [List.length_reverse]; omega) fun k y hk i x hi hx => ?_
    have hkl := (List.getElem?_eq_some_iff.1 hk).1
    rw [List.length_reverse] at hkl
    exact clean_acc hacc hi (by simp only [pkOf, List.length_map]; omega) hx hk
  | o :: l, j, d, E, H, O, r, hj0, hj, h => by
    simp only [denD] at h
    have hjo : ops[j]? = some o := by
      have := congrArg (·[0]?) hj
      simpa [List.getElem?_drop] using this
    have hjl : ops.drop (j + 1) = l := by
      have := congrArg List.tail hj
      simpa using this
    have hpj : (pkOf ops).getD j false = true → pureK o.op = true := fun h => by
      simp only [pkOf, List.getD_eq_getElem?_getD, List.getElem?_map, hjo, Option.map_some, Option.getD_some] at h
      exact h
    have doit : (denPF (freeO (befOf ops) (pkOf ops) j) orc run n (Nat.add n d) T E H O o.op fun y H O => denD orc (pkOf ops) (befOf ops) run n T fin l (j + 1) (d + 8) (putE E o.dst y) H O) = some r →
        ∃ E' H' O', fin E' H' O' = some r ∧ (∃ L, O' = L ++ O) ∧ (Valid P O' → ∀ acc t h, acc.length = j → AccOk (befOf ops) (pkOf ops) acc → LookOk t E F → HEq' h (decH H) →
          ∃ t' h', LookOk t' E' F ∧ HEq' h' (decH H') ∧ ∀ Q : List (Nat × AV) → Hp → Prop, Q t' h' → wpOpD P (n + d) o t h fun r => wpDrawL P (n + d + 8) l ((r.rd, r.upd.map Prod.fst) :: acc) (putA t o.dst r.val) (r.upd ++ h) fun acc t h => okDraw ops acc.reverse = true ∧ Q t h) := fun h => by
      obtain ⟨y, H1, o1, u, rd, h1, hh1, hu, hpu, hop⟩ := denPF_ok hrun hT h
      obtain ⟨E', H', O', hfin, ⟨L, hL⟩, hs⟩ := denD_ok hst hrun hT l (j + 1) (d + 8) _ _ _ _ (by have := (List.getElem?_eq_some_iff.1 hjo).1; omega) hjl h1
      rw [apO_eq] at hL
      refine ⟨E', H', O', hfin, ⟨L ++ o1, by rw [hL, List.append_assoc]⟩, fun hv acc t h2 ha hacc hl hh => ?_⟩
      have hv1 : Valid P o1 := by rw [hL] at hv; exact hv.app.2.app.1
      obtain ⟨t', h', g1, g2, g3⟩ := hs hv ((rd, u.map Prod.fst) :: acc) _ _ (by simp only [List.length_cons]; omega) (hacc.cons ⟨fun hf => by rw [ha] at hf; rw [hu hf]; rfl, fun hf => by rw [ha] at hf; obtain ⟨e1, e2⟩ := hpu (hpj hf); rw [e1, e2]; rfl⟩) (hl.put o.dst y) (HEq'.trans (HEq'.app u hh) hh1)
      refine ⟨t', h', g1, g2, fun Q hQ => ?_⟩
      have g4 := g3 Q hQ
      rw [show n + (d + 8) = n + d + 8 by omega] at g4
      exact ((hop hv1) t h2 o hl hh rfl).2.1 _ g4
    cases hg : o.guard with
    | none =>
      rw [hg] at h
      obtain ⟨E', H', O', hfin, h1, h2⟩ := doit h
      refine ⟨E', H', O', hfin, h1, fun hv acc t h ha hacc hl hh => ?_⟩
      obtain ⟨t', h', h3, h4, h5⟩ := h2 hv acc t h ha hacc hl hh
      refine ⟨t', h', h3, h4, fun Q hQ => ?_⟩
      simp only [wpDrawL, hg]
      exact h5 Q hQ
    | some gw =>
      obtain ⟨g, want⟩ := gw
      rw [hg] at h
      simp only at h
      obtain ⟨v, h, hgt⟩ := opd_some hT h
      have hgt : ∀ t, LookOk t E F → get t g = some v.dec := hgt
      have skip : denD orc (pkOf ops) (befOf ops) run n T fin l (j + 1) (d + 8) (putE E o.dst xU) H O = some r → ∃ E' H' O', fin E' H' O' = some r ∧ (∃ L, O' = L ++ O) ∧ (Valid P O' → ∀ acc t h, acc.length = j → AccOk (befOf ops) (pkOf ops) acc → LookOk t E F → HEq' h (decH H) →
          ∃ t' h', LookOk t' E' F ∧ HEq' h' (decH H') ∧ ∀ Q : List (Nat × AV) → Hp → Prop, Q t' h' → wpDrawL P (n + d + 8) l (([], []) :: acc) (putA t o.dst (.v undef)) h fun acc t h => okDraw ops acc.reverse = true ∧ Q t h) := fun h => by
        obtain ⟨E', H', O', hfin, h1, h2⟩ := denD_ok hst hrun hT l (j + 1) (d + 8) _ _ _ _ (by have := (List.getElem?_eq_some_iff.1 hjo).1; omega) hjl h
        refine ⟨E', H', O', hfin, h1, fun hv acc t h ha hacc hl hh => ?_⟩
        have hp := hl.put o.dst xU
        rw [dec_U] at hp
        obtain ⟨t', h', h3, h4, h5⟩ := h2 hv (([], []) :: acc) _ h (by simp only [List.length_cons]; omega) (hacc.cons ⟨fun _ => rfl, fun _ => rfl⟩) hp hh
        exact ⟨t', h', h3, h4, fun Q hQ => by have := h5 Q hQ; rw [show n + (d + 8) = n + d + 8 by omega] at this; exact this⟩
      rcases grdX_some h with ⟨b, hb, ⟨hw, h⟩ | ⟨hw, h⟩⟩ | ⟨hb, h⟩
      · obtain ⟨E', H', O', hfin, h1, h2⟩ := doit h
        refine ⟨E', H', O', hfin, h1, fun hv acc t h ha hacc hl hh => ?_⟩
        obtain ⟨t', h', h3, h4, h5⟩ := h2 hv acc t h ha hacc hl hh
        refine ⟨t', h', h3, h4, fun Q hQ => ?_⟩
        have h6 := h5 Q hQ
        simp only [wpDrawL, hg, hgt t hl, hb, onG_bool]
        cases b <;> cases want <;> simp_all [Split]
      · obtain ⟨E', H', O', hfin, h1, h2⟩ := skip h
        refine ⟨E', H', O', hfin, h1, fun hv acc t h ha hacc hl hh => ?_⟩
        obtain ⟨t', h', h3, h4, h5⟩ := h2 hv acc t h ha hacc hl hh
        refine ⟨t', h', h3, h4, fun Q hQ => ?_⟩
        have h6 := h5 Q hQ
        simp only [wpDrawL, hg, hgt t hl, hb, onG_bool]
        cases b <;> cases want <;> simp_all [Split]
      · obtain ⟨E', H', O', hfin, h1, h2⟩ := skip h
        refine ⟨E', H', O', hfin, h1, fun hv acc t h ha hacc hl hh => ?_⟩
        obtain ⟨t', h', h3, h4, h5⟩ := h2 hv acc t h ha hacc hl hh
        refine ⟨t', h', h3, h4, fun Q hQ => ?_⟩
        simp only [wpDrawL, hg, hgt t hl, hb]
        exact h5 Q hQ
theorem regD_ok {P : Program} {orc : Option Orc} {G : List Nat} {ops : List SOper} (hst : statOk ops = true) : RgOk P G (regD orc G ops) (.region ops true) := by
  intro run hrun n T H O e n' T' H' O' h
  obtain ⟨l, R, h, hl, hT⟩ := opnX_some h
  obtain ⟨E', H1, O1, hfin, h1, h2⟩ := denD_ok hst hrun (zip0_same (G := G) hl hT) ops 0 0 [] _ _ _ (Nat.zero_le _) rfl h
  obtain ⟨T1, hr, hv1⟩ := endG_some hl hT hfin
  simp only [XRX.mk.injEq] at hr
  obtain ⟨rfl, rfl, rfl, rfl, rfl⟩ := hr
  refine ⟨h1, fun hv t h hvw hh => ?_⟩
  obtain ⟨t', h', h3, h4, h5⟩ := h2 hv [] t h rfl (fun i x hi => (by simp at hi)) hvw.lookOk hh
  refine ⟨t', h', hv1 t' h3, h4, fun Q hQ => Wps.of ?_⟩
  simp only [wpc, if_true, wpDraw]
  exact h5 (fun t h => Q .normal ⟨n + 8 * ops.length, t, h⟩) hQ
end Go.Eng

namespace Go.Eng
open Go
noncomputable section
def nmX (p : X) : Option (List Nat) := iteO (isT p 7) (some [pB p]) (iteO (isT p 10) (some [rB p]) (iteO (isT p 8) (some [oBn p]) (iteO (bitT 592 p) (some []) (ifO (isT p 15) (some p.o.nms)))))
def nmK (p : X) (k : List Nat → RRX) : RRX := @Option.rec (List Nat) (fun _ => RRX) none k (nmX p)
abbrev ftC (E : Env) (T : Env0) (nm : Nat) (op : SOp) (k : Foot → RRX) : RRX := match op with
  | .load _ _ x => opd E T x fun p => nmK p fun l => k (l, [])
  | .nilc x => opd E T x fun p => nmK p fun l => k (l, [])
  | .faddr _ x => opd E T x fun p => nmK p fun l => k (l, [])
  | .len x => opd E T x fun p => nmK p fun l => k (l, [])
  | .iaddr _ x _ => opd E T x fun p => nmK p fun l => k (l, [])
  | .slice _ x _ _ none => opd E T x fun p => nmK p fun l => k (l, [])
  | .store _ x _ => opd E T x fun p => nmK p fun l => k (l, l)
  | .app _ _ _ _ s x => opd E T s fun p => nmK p fun l => opd E T x fun q => nmK q fun m => k (List.append l m, nm :: l)
  | .alloc _ => k ([], [nm])
  | .box _ => k ([], [nm])
  | .bslice _ _ _ _ _ => k ([], [nm])
  | op => cndB (pureK op) (k ([], [])) none
abbrev denFt (orc : Option Orc) (run : RunX) (n nm : Nat) (T : Env0) (E : Env) (H : HX) (O : List Use) (op : SOp) (k : Foot → KX) : RRX := match op with
  | .call f args => denC callPu run n nm T E H O f args (k ([], []))
  | op => ftC E T nm op fun ft => denP orc run n nm T E H O op (k ft)
def denF (orc : Option Orc) (run : RunX) (n : Nat) (T : Env0) (fin : List Foot → Env → HX → List Use → RRX) : List SOper → Nat → List Foot → Env → HX → List Use → RRX
  | [], _, acc, E, H, O => fin acc E H O
  | o :: l, d, acc, E, H, O => match o.guard with
    | none => denFt orc run n (Nat.add n d) T E H O o.op fun ft y H O => denF orc run n T fin l (d + 8) (ft :: acc) (putE E o.dst y) H O
    | some (g, want) => cndB (pureK o.op) (opd E T (.tmp g) fun v => grdX want v H O (fun k => denP orc run n (Nat.add n d) T E H O o.op k) fun y H O => denF orc run n T fin l (d + 8) (([], []) :: acc) (putE E o.dst y) H O) none
def finF (bef : List Nat) (fin : Env → HX → List Use → RRX) (acc : List Foot) (E : Env) (H : HX) (O : List Use) : RRX := ifX (okG bef 0 [] [] acc.reverse) (fin E H O)
def regF (orc : Option Orc) (G : List Nat) (ops : List SOper) : RgS := fun run n T H O => opnX (needM G ops) T fun l R =>
  denF orc run n (zip0 (G.take (4 * needM G ops)) l) (finF (befOf ops) (endG G (needM G ops) ops.length n (zip0 (G.take (4 * needM G ops)) l) R)) ops 0 [] [] H O
def stOk (ops : List SOper) : Bool := (List.range ops.length).all fun j => match ops[j]? with
  | some o => freeO (befOf ops) (pkOf ops) j || (quietK o.op || (callO o.op).isSome)
  | none => true
end
theorem bits_592 {t : Nat} (hl : t < 16) (h : (592 >>> t) % 2 = 1) : t = 4 ∨ t = 6 ∨ t = 9 := by
  have ht : t = 0 ∨ t = 1 ∨ t = 2 ∨ t = 3 ∨ t = 4 ∨ t = 5 ∨ t = 6 ∨ t = 7 ∨ t = 8 ∨ t = 9 ∨ t = 10 ∨ t = 11 ∨ t = 12 ∨ t = 13 ∨ t = 14 ∨ t = 15 := by omega
  rcases ht with rfl | rfl | rfl | rfl | rfl | rfl | rfl | rfl | rfl | rfl | rfl | rfl | rfl | rfl | rfl | rfl <;> first | omega | (exfalso; revert h; decide)
theorem nmX_some {p : X} {l : List Nat} (h : nmX p = some l) : p.dec.nms = l := by
  rcases iteO_some h with ⟨h1, h⟩ | ⟨_, h⟩
  · cases h; rw [isT7 h1]; rfl
  · rcases iteO_some h with ⟨h1, h⟩ | ⟨_, h⟩
    · cases h; rw [isT10 h1]; rfl
    · rcases iteO_some h with ⟨h1, h⟩ | ⟨_, h⟩
      · cases h; rw [isT8 h1]; rfl
      · rcases iteO_some h with ⟨h1, h⟩ | ⟨_, h⟩
        · cases h
          rcases bits_592 (Nat.mod_lt _ (by omega)) (bitT_eq h1) with e | e | e
          · rw [X.dec4 e]; rfl
          · rw [X.dec6 e]; rfl
          · rw [X.dec9 e]; rfl
        · obtain ⟨h1, h⟩ := ifO_some h
          cases h
          rw [X.decE (.inr (by rw [isT_eq h1]; omega))]
theorem nmK_some {p : X} {k : List Nat → RRX} {r} (h : nmK p k = some r) : ∃ l, p.dec.nms = l ∧ k l = some r := by
  unfold nmK at h
  cases hn : nmX p with
  | none => rw [hn] at h; cases h
  | some l => rw [hn] at h; exact ⟨l, nmX_some hn, h⟩
def FtOk (F : Nat → X → Prop) (E : Env) (nm : Nat) (op : SOp) (ft : Foot) : Prop := (pureK op = true) ∨ ∀ t run H0 o (r : Rec), LookOk t E F → o.op = op → opX run nm o t H0 = some r → (∀ b ∈ r.rd, b ∈ ft.1) ∧ ∀ b ∈ r.upd.map Prod.fst, b ∈ ft.2
theorem opX_parts {run : RunT} {nm : Nat} {o : SOper} {t : List (Nat × AV)} {h : Hp} {r : Rec} (hp : plainOp o.op = true) (hx : opX run nm o t h = some r) : r.rd = rdOf t o.op ∧ ∃ e, eff nm t h o.op = some e ∧ r.upd = e.upd := by
  rw [opX_plain hp] at hx
  split at hx
  · rename_i e he
    cases hb : preB t h o.op with
    | false => rw [hb] at hx; cases hx
    | true => rw [hb] at hx; cases hx; exact ⟨rfl, e, by rw [eff2_eq]; exact he, rfl⟩
  · cases hx
theorem load_upd {nm : Nat} {t : List (Nat × AV)} {h : Hp} {ag : Bool} {sz : Nat} {x : Operand} {e : E} (he : eff nm t h (.load ag sz x) = some e) : e.upd = [] := by
  simp only [eff] at he
  repeat' split at he
  all_goals first | (cases he; rfl) | cases he
theorem nilc_upd {nm : Nat} {t : List (Nat × AV)} {h : Hp} {x : Operand} {e : E} (he : eff nm t h (.nilc x) = some e) : e.upd = [] := by
  simp only [eff] at he
  repeat' split at he
  all_goals first | (cases he; rfl) | cases he
theorem faddr_upd {nm : Nat} {t : List (Nat × AV)} {h : Hp} {off : Nat} {x : Operand} {e : E} (he : eff nm t h (.faddr off x) = some e) : e.upd = [] := by
  simp only [eff] at he
  repeat' split at he
  all_goals first | (cases he; rfl) | cases he
theorem len_upd {nm : Nat} {t : List (Nat × AV)} {h : Hp} {x : Operand} {e : E} (he : eff nm t h (.len x) = some e) : e.upd = [] := by
  simp only [eff] at he
  repeat' split at he
  all_goals first | (cases he; rfl) | cases he
theorem iaddr_upd {nm : Nat} {t : List (Nat × AV)} {h : Hp} {sz : Nat} {x i : Operand} {e : E} (he : eff nm t h (.iaddr sz x i) = some e) : e.upd = [] := by
  simp only [eff] at he
  repeat' split at he
  all_goals first | (cases he; rfl) | cases he
theorem slice_upd {nm : Nat} {t : List (Nat × AV)} {h : Hp} {sz : Nat} {x : Operand} {lo hi : Option Operand} {e : E} (he : eff nm t h (.slice sz x lo hi none) = some e) : e.upd = [] := by
  simp only [eff] at he
  repeat' split at he
  all_goals first | contradiction | (cases he; rfl) | cases he
theorem store_upd {nm : Nat} {t : List (Nat × AV)} {h : Hp} {sz : Nat} {x y : Operand} {e : E} (he : eff nm t h (.store sz x y) = some e) : ∀ b ∈ e.upd.map Prod.fst, b ∈ nmsO (ev t x) := by
  simp only [eff] at he
  repeat' split at he
  all_goals first | (cases he; rename_i hx _ _ _ _ _ _ _; simp_all [nmsO, AV.nms]; done) | (cases he; simp_all [nmsO, AV.nms]; done) | cases he
theorem app_upd {nm : Nat} {t : List (Nat × AV)} {h : Hp} {el sz by_ : Nat} {zs : List Value} {s x : Operand} {e : E} (he : eff nm t h (.app el sz by_ zs s x) = some e) : ∀ b ∈ e.upd.map Prod.fst, b ∈ nm :: nmsO (ev t s) := by
  simp only [eff] at he
  repeat' split at he
  all_goals first | (cases he; simp_all [nmsO, AV.nms]; done) | cases he
theorem alloc_upd {nm : Nat} {t : List (Nat × AV)} {h : Hp} {zs : List Value} {e : E} (he : eff nm t h (.alloc zs) = some e) : e.upd.map Prod.fst = [nm] := by
  simp only [eff] at he
  cases he; rfl
theorem box_upd {nm : Nat} {t : List (Nat × AV)} {h : Hp} {x : Operand} {e : E} (he : eff nm t h (.box x) = some e) : e.upd.map Prod.fst = [nm] := by
  simp only [eff] at he
  repeat' split at he
  all_goals first | (cases he; rfl) | cases he
theorem bslice_upd {nm : Nat} {t : List (Nat × AV)} {h : Hp} {el sz : Nat} {zs : List Value} {len : Nat} {ps : List (Nat × Operand)} {e : E} (he : eff nm t h (.bslice el sz zs len ps) = some e) : e.upd.map Prod.fst = [nm] := by
  simp only [eff] at he
  repeat' split at he
  all_goals first | (cases he; rfl) | cases he
section
variable {T : Env0} {F : Nat → X → Prop}
theorem ft_quiet {E : Env} {nm : Nat} {op : SOp} {x : Operand} {p : X} {l : List Nat} (hp : plainOp op = true) (hrd : ∀ t, rdOf t op = nmsO (ev t x)) (hu : ∀ nm t h e, eff nm t h op = some e → e.upd = []) (h1 : ∀ t, LookOk t E F → ev t x = some p.dec) (hl : p.dec.nms = l) : FtOk F E nm op (l, []) := by
  refine .inr fun t run H0 o r hlk ho hx => ?_
  subst ho
  obtain ⟨g1, e, g2, g3⟩ := opX_parts hp hx
  rw [g1, hrd, h1 t hlk, g3, hu _ _ _ _ g2]
  simp only [nmsO, hl]
  exact ⟨fun b hb => hb, fun b hb => by simp at hb⟩
theorem ft_new {E : Env} {nm : Nat} {op : SOp} (hp : plainOp op = true) (hrd : ∀ t, rdOf t op = []) (hu : ∀ nm t h e, eff nm t h op = some e → e.upd.map Prod.fst = [nm]) : FtOk F E nm op ([], [nm]) := by
  refine .inr fun t run H0 o r hlk ho hx => ?_
  subst ho
  obtain ⟨g1, e, g2, g3⟩ := opX_parts hp hx
  rw [g1, hrd, g3, hu _ _ _ _ g2]
  exact ⟨fun b hb => hb, fun b hb => hb⟩
theorem ftC_some (hT : SameF F T) {E : Env} {nm : Nat} {op : SOp} {k : Foot → RRX} {r} (h : ftC E T nm op k = some r) : ∃ ft, k ft = some r ∧ FtOk F E nm op ft ∧ (pureK op = true → ft = ([], [])) := by
  have hpure : (cndB (pureK op) (k ([], [])) none) = some r → ∃ ft, k ft = some r ∧ FtOk F E nm op ft ∧ (pureK op = true → ft = ([], [])) := fun h => by
    cases hp : pureK op with
    | true => rw [hp] at h; exact ⟨([], []), h, .inl hp, fun _ => rfl⟩
    | false => rw [hp] at h; cases h
  cases op
  case load ag sz x =>
    obtain ⟨p, h, h1⟩ := opd_some hT h
    obtain ⟨l, hl, h⟩ := nmK_some h
    exact ⟨_, h, ft_quiet rfl (fun _ => rfl) (fun _ _ _ _ => load_upd) h1 hl, fun e => by cases e⟩
  case nilc x =>
    obtain ⟨p, h, h1⟩ := opd_some hT h
    obtain ⟨l, hl, h⟩ := nmK_some h
    exact ⟨_, h, ft_quiet rfl (fun _ => rfl) (fun _ _ _ _ => nilc_upd) h1 hl, fun e => by cases e⟩
  case faddr off x =>
    obtain ⟨p, h, h1⟩ := opd_some hT h
    obtain ⟨l, hl, h⟩ := nmK_some h
    exact ⟨_, h, ft_quiet rfl (fun _ => rfl) (fun _ _ _ _ => faddr_upd) h1 hl, fun e => by cases e⟩
  case len x =>
    obtain ⟨p, h, h1⟩ := opd_some hT h
    obtain ⟨l, hl, h⟩ := nmK_some h
    exact ⟨_, h, ft_quiet rfl (fun _ => rfl) (fun _ _ _ _ => len_upd) h1 hl, fun e => by cases e⟩
  case iaddr sz x i =>
    obtain ⟨p, h, h1⟩ := opd_some hT h
    obtain ⟨l, hl, h⟩ := nmK_some h
    exact ⟨_, h, ft_quiet rfl (fun _ => rfl) (fun _ _ _ _ => iaddr_upd) h1 hl, fun e => by cases e⟩
  case slice sz x lo hi mx =>
    cases mx with
    | none =>
      obtain ⟨p, h, h1⟩ := opd_some hT h
      obtain ⟨l, hl, h⟩ := nmK_some h
      exact ⟨_, h, ft_quiet rfl (fun _ => rfl) (fun _ _ _ _ => slice_upd) h1 hl, fun e => by cases e⟩
    | some m => exact hpure h
  case store sz x y =>
    obtain ⟨p, h, h1⟩ := opd_some hT h
    obtain ⟨l, hl, h⟩ := nmK_some h
    refine ⟨_, h, .inr fun t run H0 o r hlk ho hx => ?_, fun e => by cases e⟩
    obtain ⟨dst, op, guard, af⟩ := o
    subst ho
    obtain ⟨g1, e, g2, g3⟩ := opX_parts rfl hx
    have g4 := store_upd g2
    rw [h1 t hlk] at g4
    rw [g1, g3]
    simp only [rdOf, h1 t hlk, nmsO, hl] at g4 ⊢
    exact ⟨fun b hb => hb, g4⟩
  case app el sz by_ zs s x =>
    obtain ⟨p, h, h1⟩ := opd_some hT h
    obtain ⟨l, hl, h⟩ := nmK_some h
    obtain ⟨q, h, h2⟩ := opd_some hT h
    obtain ⟨m, hm, h⟩ := nmK_some h
    refine ⟨_, h, .inr fun t run H0 o r hlk ho hx => ?_, fun e => by cases e⟩
    obtain ⟨dst, op, guard, af⟩ := o
    subst ho
    obtain ⟨g1, e, g2, g3⟩ := opX_parts rfl hx
    have g4 := app_upd g2
    rw [h1 t hlk] at g4
    rw [g1, g3]
    simp only [rdOf, h1 t hlk, h2 t hlk, nmsO, hl, hm] at g4 ⊢
    exact ⟨fun b hb => hb, g4⟩
  case alloc zs => exact ⟨_, h, ft_new rfl (fun _ => rfl) (fun _ _ _ _ => alloc_upd), fun e => by cases e⟩
  case box x => exact ⟨_, h, ft_new rfl (fun _ => rfl) (fun _ _ _ _ => box_upd), fun e => by cases e⟩
  case bslice e sz zs len ps => exact ⟨_, h, ft_new rfl (fun _ => rfl) (fun _ _ _ _ => bslice_upd), fun e => by cases e⟩
  all_goals exact hpure h
theorem denFt_ok (hT : SameF F T) {P : Program} {orc : Option Orc} {run : RunX} (hrun : RunXOk P run) {n nm : Nat} {E : Env} {H : HX} {O : List Use} {op : SOp} {k : Foot → KX} {r} (h : denFt orc run n nm T E H O op k = some r) :
    ∃ ft y H' o u rd, k ft y H' (apO o O) = some r ∧ HEq' (u ++ decH H) (decH H') ∧ (Valid P o → OpOk P op nm E F H y u rd) ∧ ((u = [] ∧ rd = []) ∨ (callO op = none ∧ FtOk F E nm op ft ∧ pureK op = false)) := by
  have plain : (ftC E T nm op fun ft => denP orc run n nm T E H O op (k ft)) = some r → callO op = none → ∃ ft y H' o u rd, k ft y H' (apO o O) = some r ∧ HEq' (u ++ decH H) (decH H') ∧ (Valid P o → OpOk P op nm E F H y u rd) ∧ ((u = [] ∧ rd = []) ∨ (callO op = none ∧ FtOk F E nm op ft ∧ pureK op = false)) := fun h hc => by
    obtain ⟨ft, h, hf, hp⟩ := ftC_some hT h
    cases hpk : pureK op with
    | true =>
      obtain ⟨y, o, rd, h1, h2, h3⟩ := denQ_ok hT hrun (pure_quiet hpk) h
      exact ⟨ft, y, H, o, [], rd, h1, fun _ => rfl, h3, .inl ⟨rfl, h2 hpk⟩⟩
    | false =>
      obtain ⟨y, H', o, u, rd, h1, h2, h3⟩ := denP_ok hT hrun h
      exact ⟨ft, y, H', o, u, rd, h1, h2, h3, .inr ⟨hc, hf, rfl⟩⟩
  cases op
  case call f args =>
    obtain ⟨y, H', o, u, rd, h1, h2, ⟨rfl, rfl, rfl⟩, h3⟩ := denC_ok hT clP_ok hrun h
    exact ⟨_, y, _, o, [], [], h1, fun _ => rfl, h3, .inl ⟨rfl, rfl⟩⟩
  all_goals exact plain h rfl
end
def Sub (a b : Foot) : Prop := (∀ x ∈ a.1, x ∈ b.1) ∧ ∀ x ∈ a.2, x ∈ b.2
theorem offB_mono {a b c d : List Nat} (h1 : ∀ x ∈ a, x ∈ c) (h2 : ∀ x ∈ b, x ∈ d) (h : offB c d = true) : offB a b = true := by
  rw [offB, List.all_eq_true] at h ⊢
  intro x hx
  have := h x (h1 x hx)
  simp only [Bool.not_eq_true', List.contains_eq_mem, decide_eq_false_iff_not] at this ⊢
  exact fun hb => this (h2 x hb)
theorem clean_mono {x y x' y' : Foot} (hx : Sub x x') (hy : Sub y y') (h : clean x' y' = true) : clean x y = true := by
  have key : x'.2 = [] ∧ y'.2 = [] ∨ (offB x'.2 y'.1 && (offB x'.2 y'.2 && offB y'.2 x'.1)) = true := by
    unfold clean at h
    split at h
    · rename_i h1 h2; exact .inl ⟨h1, h2⟩
    · exact .inr h
  rcases key with ⟨h1, h2⟩ | h1
  · have e1 : x.2 = [] := List.eq_nil_iff_forall_not_mem.2 fun b hb => by have := hx.2 b hb; rw [h1] at this; simp at this
    have e2 : y.2 = [] := List.eq_nil_iff_forall_not_mem.2 fun b hb => by have := hy.2 b hb; rw [h2] at this; simp at this
    unfold clean; rw [e1, e2]
  · simp only [Bool.and_eq_true] at h1
    unfold clean
    split
    · rfl
    · simp only [Bool.and_eq_true]
      exact ⟨offB_mono hx.2 hy.1 h1.1, offB_mono hx.2 hy.2 h1.2.1, offB_mono hy.2 hx.1 h1.2.2⟩
def AccS : List Foot → List Foot → Prop
  | [], [] => True
  | a :: l, b :: m => Sub a b ∧ AccS l m
  | _, _ => False
theorem AccS.get : ∀ {l m : List Foot} {i : Nat} {x : Foot}, AccS l m → l[i]? = some x → ∃ y, m[i]? = some y ∧ Sub x y
  | [], [], i, x, _, h => by simp at h
  | a :: l, b :: m, 0, x, h, hx => by simp at hx; subst hx; exact ⟨b, rfl, h.1⟩
  | a :: l, b :: m, i + 1, x, h, hx => by
    obtain ⟨y, h1, h2⟩ := AccS.get h.2 (show l[i]? = some x by simpa using hx)
    exact ⟨y, by simpa using h1, h2⟩
theorem AccS.len : ∀ {l m : List Foot}, AccS l m → l.length = m.length
  | [], [], _ => rfl
  | a :: l, b :: m, h => by simp [AccS.len h.2]
theorem AccS.rev {l m : List Foot} (h : AccS l m) {i : Nat} {x : Foot} (hx : l.reverse[i]? = some x) : ∃ y, m.reverse[i]? = some y ∧ Sub x y := by
  have hi : i < l.length := by have := (List.getElem?_eq_some_iff.1 hx).1; simpa using this
  rw [List.getElem?_reverse hi] at hx
  obtain ⟨y, h1, h2⟩ := h.get hx
  rw [h.len] at h1 hi
  exact ⟨y, by rw [List.getElem?_reverse hi]; exact h1, h2⟩
theorem denF_ok {P : Program} {orc : Option Orc} {ops : List SOper} (hst : statOk ops = true) {run : RunX} (hrun : RunXOk P run) {n : Nat} {T : Env0} {F : Nat → X → Prop} (hT : SameF F T) {fin : Env → HX → List Use → RRX} : ∀ (l : List SOper) (d : Nat) (ac : List Foot) (E : Env) (H : HX) (O : List Use) r,
    ac.length + l.length = ops.length → denF orc run n T (finF (befOf ops) fin) l d ac E H O = some r → ∃ E' H' O', fin E' H' O' = some r ∧ (∃ L, O' = L ++ O) ∧ (Valid P O' → ∀ acc t h, AccS acc ac → LookOk t E F → HEq' h (decH H) →
      ∃ t' h', LookOk t' E' F ∧ HEq' h' (decH H') ∧ ∀ Q : List (Nat × AV) → Hp → Prop, Q t' h' → wpDrawL P (n + d) l acc t h fun acc t h => okDraw ops acc.reverse = true ∧ Q t h)
  | [], d, ac, E, H, O, r, hj, h => by
    obtain ⟨hG, h⟩ := ifX_some h
    refine ⟨E, H, O, h, ⟨[], rfl⟩, fun _ acc t h ha hl hh => ⟨t, h, hl, hh, fun Q hQ => ⟨?_, hQ⟩⟩⟩
    simp only [List.length_nil, Nat.add_zero] at hj
    refine okDraw_dyn hst (by rw [List.length_reverse, ha.len]; exact hj) fun k y hk i x hi hx => ?_
    obtain ⟨y', hy', sy⟩ := ha.rev hk
    obtain ⟨x', hx', sx⟩ := ha.rev hx
    have := (okG_all _ 0 [] [] hG (fun p hp => by simp at hp) k y' hy').2 i x' hi hx'
    simp only [Nat.zero_add, Bool.or_eq_true] at this ⊢
    exact this.imp id (clean_mono sx sy)
  | o :: l, d, ac, E, H, O, r, hj, h => by
    simp only [denF] at h
    simp only [List.length_cons] at hj
    cases hg : o.guard with
    | none =>
      rw [hg] at h
      obtain ⟨ft, y, H1, o1, u, rd, h1, hh1, hop, hft⟩ := denFt_ok hT hrun h
      obtain ⟨E', H', O', hfin, ⟨L, hL⟩, hs⟩ := denF_ok hst hrun hT l (d + 8) _ _ _ _ _ (by simp only [List.length_cons]; omega) h1
      rw [apO_eq] at hL
      refine ⟨E', H', O', hfin, ⟨L ++ o1, by rw [hL, List.append_assoc]⟩, fun hv acc t h2 ha hl hh => ?_⟩
      have hv1 : Valid P o1 := by rw [hL] at hv; exact hv.app.2.app.1
      have hopt := (hop hv1) t h2 o hl hh rfl
      have hsub : Sub (rd, u.map Prod.fst) ft := by
        rcases hft with ⟨rfl, rfl⟩ | ⟨hc, hf, hpk⟩
        · exact ⟨fun b hb => by simp at hb, fun b hb => by simp at hb⟩
        · obtain ⟨run', H0, hx⟩ := hopt.2.2 hc
          rcases hf with hf | hf
          · rw [hpk] at hf; cases hf
          · exact hf t run' H0 o _ hl rfl hx
      obtain ⟨t', h', g1, g2, g3⟩ := hs hv ((rd, u.map Prod.fst) :: acc) _ _ ⟨hsub, ha⟩ (hl.put o.dst y) (HEq'.trans (HEq'.app u hh) hh1)
      refine ⟨t', h', g1, g2, fun Q hQ => ?_⟩
      have g4 := g3 Q hQ
      rw [show n + (d + 8) = n + d + 8 by omega] at g4
      simp only [wpDrawL, hg]
      exact hopt.2.1 _ g4
    | some gw =>
      obtain ⟨g, want⟩ := gw
      rw [hg] at h
      simp only at h
      cases hpk : pureK o.op with
      | false => rw [hpk] at h; cases h
      | true =>
      rw [hpk] at h
      obtain ⟨v, h, hgt⟩ := opd_some hT (show (opd E T (.tmp g) fun v => grdX want v H O (fun k => denP orc run n (Nat.add n d) T E H O o.op k) fun y H O => denF orc run n T (finF (befOf ops) fin) l (d + 8) (([], []) :: ac) (putE E o.dst y) H O) = some r from h)
      have hgt : ∀ t, LookOk t E F → get t g = some v.dec := hgt
      have s0 : Sub ([], []) ([], []) := ⟨fun b hb => hb, fun b hb => hb⟩
      have doit : (denP orc run n (Nat.add n d) T E H O o.op fun y H O => denF orc run n T (finF (befOf ops) fin) l (d + 8) (([], []) :: ac) (putE E o.dst y) H O) = some r →
          ∃ E' H' O', fin E' H' O' = some r ∧ (∃ L, O' = L ++ O) ∧ (Valid P O' → ∀ acc t h, AccS acc ac → LookOk t E F → HEq' h (decH H) →
            ∃ t' h', LookOk t' E' F ∧ HEq' h' (decH H') ∧ ∀ Q : List (Nat × AV) → Hp → Prop, Q t' h' → wpOpD P (n + d) o t h fun r => wpDrawL P (n + d + 8) l ((r.rd, r.upd.map Prod.fst) :: acc) (putA t o.dst r.val) (r.upd ++ h) fun acc t h => okDraw ops acc.reverse = true ∧ Q t h) := fun h => by
        obtain ⟨y, o1, rd, h1, hrd, hop⟩ := denQ_ok hT hrun (pure_quiet hpk) h
        have hrd := hrd hpk
        subst hrd
        obtain ⟨E', H', O', hfin, ⟨L, hL⟩, hs⟩ := denF_ok hst hrun hT l (d + 8) _ _ _ _ _ (by simp only [List.length_cons]; omega) h1
        rw [apO_eq] at hL
        refine ⟨E', H', O', hfin, ⟨L ++ o1, by rw [hL, List.append_assoc]⟩, fun hv acc t h2 ha hl hh => ?_⟩
        have hv1 : Valid P o1 := by rw [hL] at hv; exact hv.app.2.app.1
        obtain ⟨t', h', g1, g2, g3⟩ := hs hv (([], []) :: acc) _ h2 ⟨s0, ha⟩ (hl.put o.dst y) hh
        refine ⟨t', h', g1, g2, fun Q hQ => ?_⟩
        have g4 := g3 Q hQ
        rw [show n + (d + 8) = n + d + 8 by omega] at g4
        exact ((hop hv1) t h2 o hl hh rfl).2.1 _ g4
      have skip : denF orc run n T (finF (befOf ops) fin) l (d + 8) (([], []) :: ac) (putE E o.dst xU) H O = some r → ∃ E' H' O', fin E' H' O' = some r ∧ (∃ L, O' = L ++ O) ∧ (Valid P O' → ∀ acc t h, AccS acc ac → LookOk t E F → HEq' h (decH H) →
            ∃ t' h', LookOk t' E' F ∧ HEq' h' (decH H') ∧ ∀ Q : List (Nat × AV) → Hp → Prop, Q t' h' → wpDrawL P (n + d + 8) l (([], []) :: acc) (putA t o.dst (.v undef)) h fun acc t h => okDraw ops acc.reverse = true ∧ Q t h) := fun h => by
        obtain ⟨E', H', O', hfin, h1, h2⟩ := denF_ok hst hrun hT l (d + 8) _ _ _ _ _ (by simp only [List.length_cons]; omega) h
        refine ⟨E', H', O', hfin, h1, fun hv acc t h ha hl hh => ?_⟩
        have hp := hl.put o.dst xU
        rw [dec_U] at hp
        obtain ⟨t', h', h3, h4, h5⟩ := h2 hv (([], []) :: acc) _ h ⟨s0, ha⟩ hp hh
        exact ⟨t', h', h3, h4, fun Q hQ => by have := h5 Q hQ; rw [show n + (d + 8) = n + d + 8 by omega] at this; exact this⟩
      rcases grdX_some h with ⟨b, hb, ⟨hw, h⟩ | ⟨hw, h⟩⟩ | ⟨hb, h⟩
      · obtain ⟨E', H', O', hfin, h1, h2⟩ := doit h
        refine ⟨E', H', O', hfin, h1, fun hv acc t h ha hl hh => ?_⟩
        obtain ⟨t', h', h3, h4, h5⟩ := h2 hv acc t h ha hl hh
        refine ⟨t', h', h3, h4, fun Q hQ => ?_⟩
        have h6 := h5 Q hQ
        simp only [wpDrawL, hg, hgt t hl, hb, onG_bool]
        cases b <;> cases want <;> simp_all [Split]
      · obtain ⟨E', H', O', hfin, h1, h2⟩ := skip h
        refine ⟨E', H', O', hfin, h1, fun hv acc t h ha hl hh => ?_⟩
        obtain ⟨t', h', h3, h4, h5⟩ := h2 hv acc t h ha hl hh
        refine ⟨t', h', h3, h4, fun Q hQ => ?_⟩
        have h6 := h5 Q hQ
        simp only [wpDrawL, hg, hgt t hl, hb, onG_bool]
        cases b <;> cases want <;> simp_all [Split]
      · obtain ⟨E', H', O', hfin, h1, h2⟩ := skip h
        refine ⟨E', H', O', hfin, h1, fun hv acc t h ha hl hh => ?_⟩
        obtain ⟨t', h', h3, h4, h5⟩ := h2 hv acc t h ha hl hh
        refine ⟨t', h', h3, h4, fun Q hQ => ?_⟩
        simp only [wpDrawL, hg, hgt t hl, hb]
        exact h5 Q hQ
theorem regF_run {P : Program} {orc : Option Orc} {G : List Nat} {ops : List SOper} (hst : statOk ops = true) {run : RunX} (hrun : RunXOk P run) {n : Nat} {T : FX} {H : HX} {O : List Use} {r : XRX} (h : regF orc G ops run n T H O = some r) :
    ∃ T' H' O', r = ⟨.normal, n + 8 * ops.length, T', H', O'⟩ ∧ (∃ L, O' = L ++ O) ∧ (Valid P O' → ∀ t h, VG G t T → HEq' h (decH H) → ∃ t' h', VG G t' T' ∧ HEq' h' (decH H') ∧ ∀ Q : List (Nat × AV) → Hp → Prop, Q t' h' → wpDraw P n ops t h Q) := by
  obtain ⟨l, R, h, hl, hT⟩ := opnX_some h
  obtain ⟨E', H1, O1, hfin, h1, h2⟩ := denF_ok hst hrun (zip0_same (G := G) hl hT) ops 0 [] [] _ _ _ (Nat.zero_add _) h
  obtain ⟨T1, hr, hv1⟩ := endG_some hl hT hfin
  refine ⟨T1, H1, O1, hr, h1, fun hv t h hvw hh => ?_⟩
  obtain ⟨t', h', h3, h4, h5⟩ := h2 hv [] t h trivial hvw.lookOk hh
  exact ⟨t', h', hv1 t' h3, h4, fun Q hQ => h5 Q hQ⟩
theorem regF_ok {P : Program} {orc : Option Orc} {G : List Nat} {ops : List SOper} (hst : statOk ops = true) : RgOk P G (regF orc G ops) (.region ops true) := by
  intro run hrun n T H O e n' T' H' O' h
  obtain ⟨T1, H1, O1, hr, h1, h2⟩ := regF_run hst hrun h
  simp only [XRX.mk.injEq] at hr
  obtain ⟨rfl, rfl, rfl, rfl, rfl⟩ := hr
  refine ⟨h1, fun hv t h hvw hh => ?_⟩
  obtain ⟨t', h', h3, h4, h5⟩ := h2 hv t h hvw hh
  refine ⟨t', h', h3, h4, fun Q hQ => Wps.of ?_⟩
  simp only [wpc, if_true]
  exact h5 (fun t h => Q .normal ⟨n + 8 * ops.length, t, h⟩) hQ
theorem regF_n {P : Program} {orc : Option Orc} {G : List Nat} {ops : List SOper} (hst : statOk ops = true) : ∀ run, RunXOk P run → ∀ n T H O r, regF orc G ops run n T H O = some r → r.e = .normal := by
  intro run hrun n T H O r h
  obtain ⟨T1, H1, O1, hr, _⟩ := regF_run hst hrun h
  rw [hr]
end Go.Eng

namespace Go.Eng
open Go
abbrev KN := Nat → FX → HX → List Use → RRX
abbrev StmX := RunX → KN → (Nat → KN) → KN → KN
noncomputable section
def skipX : StmX := fun _ kn _ _ n T H O => kn n T H O
def exitX (i : Nat) : StmX := fun _ _ ke _ n T H O => ke i n T H O
def retXX : StmX := fun _ _ _ kr n T H O => kr n T H O
def exN (e : Exit) (a b : RRX) : RRX := @Exit.rec (fun _ => RRX) a (fun _ => b) (fun _ => b) b (fun _ => b) b e
def rgS (x : RRX) (kn : KN) : RRX := @Option.rec XRX (fun _ => RRX) none (fun r => exN r.e (kn r.n r.T r.H r.O) none) x
def rgX (a b : RgS) : StmX := fun run kn _ _ n T H O => @Option.rec XRX (fun _ => RRX) (rgS (b run n T H O) kn) (fun r => @XRX.rec (fun _ => RRX) (fun _ n T H O => kn n T H O) r) (a run n T H O)
def seqX (a b : StmX) : StmX := fun run kn ke kr n T H O => a run (b run kn ke kr) ke kr n T H O
def ifBX (v : X) (a b : RRX) : RRX := ifX (isT v 1) (iteX (boolX v) a b)
def cdX (G : List Nat) (c : Operand) (T : FX) (k : X → RRX) : RRX := match c with
  | .tmp j => match posG G j with
    | some p => oX (rdS p T) k
    | none => none
  | .const c => k (encV c)
  | _ => none
def condX (G : List Nat) (c : Operand) (a b : StmX) : StmX := fun run kn ke kr n T H O => cdX G c T fun v => ifBX v (a run kn ke kr n T H O) (b run kn ke kr n T H O)
def cndX (r : FX → Option X) (a b : StmX) : StmX := fun run kn ke kr n T H O => oX (r T) fun v => ifBX v (a run kn ke kr n T H O) (b run kn ke kr n T H O)
def blkE (id : Nat) (kn : KN) (ke : Nat → KN) : Nat → KN := fun i n T H O => iteX (Nat.beq i id) (kn n T H O) (ke i n T H O)
def blockX (id : Nat) (a : StmX) : StmX := fun run kn ke kr n T H O => a run kn (blkE id kn ke) kr n T H O
def gcX (G : List Nat) (T : FX) (H : HX) (k : FX → HX → RRX) : RRX := match frz [] (frL (frY G T)) (decH H) with
  | some (t, h) => k (fromF G (frOfL t)) (encH h)
  | none => k T H
def longH (H : HX) (m : Nat) : Bool := Nat.ble m (@List.rec XO (fun _ => Nat) 0 (fun _ _ ih => Nat.succ ih) H)
def gcXX (G : List Nat) (T : FX) (H : HX) (k : FX → HX → RRX) : RRX := iteX (longH H 2000) (gcX G T H k) (k T H)
def loopX (G : List Nat) (a : StmX) (f : Nat) : StmX := @Nat.rec (fun _ => StmX) (fun _ _ _ _ _ _ _ _ => none) (fun _ ih run kn ke kr n T H O => a run (fun n T H O => gcXX G T H fun T H => ih run kn ke kr n T H O) ke kr n T H O) f
def compX (orc : Option Orc) (G : List Nat) : SCode → StmX
  | .skip => skipX
  | .region ops true => cndB (stOk ops) (rgX (regD orc G ops) (slowY G (comp (.region ops true)))) (rgX (regF orc G ops) (slowY G (comp (.region ops true))))
  | .region ops false => rgX (regX orc G ops) (slowY G (comp (.region ops false)))
  | .seq a b => seqX (compX orc G a) (compX orc G b)
  | .cond c x y => condX G c (compX orc G x) (compX orc G y)
  | .block id c => blockX id (compX orc G c)
  | .loop c => loopX G (compX orc G c) 100000
  | .exit id => exitX id
  | .ret => retXX
def sL : SCode → SCode
  | .seq a _ => a
  | .cond _ a _ => a
  | .block _ c => c
  | .loop c => c
  | c => c
def sR : SCode → SCode
  | .seq _ b => b
  | .cond _ _ b => b
  | c => c
def selK (e : Exit) (kn : KN) (ke : Nat → KN) (kr : KN) : KN := match e with
  | .normal => kn
  | .exit i => ke i
  | .ret => kr
  | _ => fun _ _ _ _ => none
end
def StmXOk (P : Program) (G : List Nat) (a : StmX) (sc : SCode) : Prop := ∀ run, RunXOk P run → ∀ kn ke kr n T H O r, a run kn ke kr n T H O = some r →
  ∃ e n' T' H' O', selK e kn ke kr n' T' H' O' = some r ∧ (∃ L, O' = L ++ O) ∧ (Valid P O' → ∀ t h, VG G t T → HEq' h (decH H) → ∃ t' h', VG G t' T' ∧ HEq' h' (decH H') ∧ Goes P sc ⟨n, t, h⟩ e ⟨n', t', h'⟩)
theorem exN_some {e : Exit} {a b : RRX} {r} (h : exN e a b = some r) : (e = .normal ∧ a = some r) ∨ (e ≠ .normal ∧ b = some r) := by
  cases e with
  | normal => exact .inl ⟨rfl, h⟩
  | _ => exact .inr ⟨fun h => (by cases h), h⟩
theorem gcX_some {G : List Nat} {T : FX} {H : HX} {k : FX → HX → RRX} {r} (h : gcXX G T H k = some r) : ∃ T2 H2, k T2 H2 = some r ∧ ∀ n t h, VG G t T → HEq' h (decH H) → ∃ t2 h2, VG G t2 T2 ∧ HEq' h2 (decH H2) ∧ Wk ⟨n, t, h⟩ ⟨n, t2, h2⟩ := by
  have same : k T H = some r → ∃ T2 H2, k T2 H2 = some r ∧ ∀ n t h, VG G t T → HEq' h (decH H) → ∃ t2 h2, VG G t2 T2 ∧ HEq' h2 (decH H2) ∧ Wk ⟨n, t, h⟩ ⟨n, t2, h2⟩ :=
    fun h => ⟨T, H, h, fun n t h hv hh => ⟨t, h, hv, hh, Wk.rfl'⟩⟩
  rcases iteX_some h with ⟨_, h⟩ | ⟨_, h⟩
  · unfold gcX at h
    split at h
    · rename_i t2 h2 hf
      exact ⟨_, _, h, fun n t h1 hv hh => ⟨t2, h2, fromF_view (view_frOfL t2) G, by rw [encH_dec]; exact fun _ => rfl, wk_of (wkth_frL (frY_view hv) hh (frz_ok hf))⟩⟩
    · exact same h
  · exact same h
theorem skipX_ok {P : Program} {G : List Nat} : StmXOk P G skipX .skip := fun run hrun kn ke kr n T H O r h =>
  ⟨.normal, n, T, H, O, h, ⟨[], rfl⟩, fun _ t h hv hh => ⟨t, h, hv, hh, fun Q hQ => Wps.of hQ⟩⟩
theorem exitX_ok {P : Program} {G : List Nat} {i : Nat} : StmXOk P G (exitX i) (.exit i) := fun run hrun kn ke kr n T H O r h =>
  ⟨.exit i, n, T, H, O, h, ⟨[], rfl⟩, fun _ t h hv hh => ⟨t, h, hv, hh, fun Q hQ => Wps.of hQ⟩⟩
theorem retXX_ok {P : Program} {G : List Nat} : StmXOk P G retXX .ret := fun run hrun kn ke kr n T H O r h =>
  ⟨.ret, n, T, H, O, h, ⟨[], rfl⟩, fun _ t h hv hh => ⟨t, h, hv, hh, fun Q hQ => Wps.of hQ⟩⟩
theorem rgX_ok {P : Program} {G : List Nat} {a b : RgS} {sc : SCode} (ha : RgOk P G a sc) (hN : ∀ run, RunXOk P run → ∀ n T H O r, a run n T H O = some r → r.e = .normal) (hb : RgOk P G b sc) : StmXOk P G (rgX a b) sc := by
  intro run hrun kn ke kr n T H O r h
  cases ha1 : a run n T H O with
  | none =>
    have h : @Option.rec XRX (fun _ => RRX) (rgS (b run n T H O) kn) (fun r => @XRX.rec (fun _ => RRX) (fun _ n T H O => kn n T H O) r) (a run n T H O) = some r := h
    rw [ha1] at h
    have h : rgS (b run n T H O) kn = some r := h
    unfold rgS at h
    cases hb1 : b run n T H O with
    | none => rw [hb1] at h; cases h
    | some r1 =>
      rw [hb1] at h
      obtain ⟨e1, n1, T1, H1, O1⟩ := r1
      rcases exN_some (e := e1) h with ⟨he, h⟩ | ⟨_, h⟩
      · subst he
        obtain ⟨h1, h2⟩ := hb run hrun _ _ _ _ _ _ _ _ _ hb1
        exact ⟨.normal, n1, T1, H1, O1, h, h1, h2⟩
      · cases h
  | some r1 =>
    have h : @Option.rec XRX (fun _ => RRX) (rgS (b run n T H O) kn) (fun r => @XRX.rec (fun _ => RRX) (fun _ n T H O => kn n T H O) r) (a run n T H O) = some r := h
    rw [ha1] at h
    have he := hN run hrun _ _ _ _ _ ha1
    obtain ⟨e1, n1, T1, H1, O1⟩ := r1
    simp only at he
    subst he
    obtain ⟨h1, h2⟩ := ha run hrun _ _ _ _ _ _ _ _ _ ha1
    exact ⟨.normal, n1, T1, H1, O1, h, h1, h2⟩
theorem regX_n {P : Program} {orc : Option Orc} {G : List Nat} {ops : List SOper} : ∀ run, RunXOk P run → ∀ n T H O r, regX orc G ops run n T H O = some r → r.e = .normal := by
  intro run hrun n T H O r h
  obtain ⟨l, R, h, hl, hT⟩ := opnX_some h
  obtain ⟨E', H1, O1, hfin, _⟩ := denO_ok hrun (zip0_same (G := G) hl hT) ops 0 [] _ _ _ h
  obtain ⟨T1, hr, _⟩ := endG_some hl hT hfin
  rw [hr]
theorem regD_n {P : Program} {orc : Option Orc} {G : List Nat} {ops : List SOper} (hst : statOk ops = true) : ∀ run, RunXOk P run → ∀ n T H O r, regD orc G ops run n T H O = some r → r.e = .normal := by
  intro run hrun n T H O r h
  obtain ⟨l, R, h, hl, hT⟩ := opnX_some h
  obtain ⟨E', H1, O1, hfin, _⟩ := denD_ok hst hrun (zip0_same (G := G) hl hT) ops 0 0 [] _ _ _ (Nat.zero_le _) rfl h
  obtain ⟨T1, hr, _⟩ := endG_some hl hT hfin
  rw [hr]
theorem seqX_ok {P : Program} {G : List Nat} {a b : StmX} {x y : SCode} (ha : StmXOk P G a x) (hb : StmXOk P G b y) : StmXOk P G (seqX a b) (.seq x y) := by
  intro run hrun kn ke kr n T H O r h
  obtain ⟨e1, n1, T1, H1, O1, h1, ⟨L1, hL1⟩, hs1⟩ := ha run hrun _ _ _ _ _ _ _ _ h
  have other : e1 ≠ .normal → selK e1 kn ke kr n1 T1 H1 O1 = some r → ∃ e n' T' H' O', selK e kn ke kr n' T' H' O' = some r ∧ (∃ L, O' = L ++ O) ∧ (Valid P O' → ∀ t h, VG G t T → HEq' h (decH H) → ∃ t' h', VG G t' T' ∧ HEq' h' (decH H') ∧ Goes P (.seq x y) ⟨n, t, h⟩ e ⟨n', t', h'⟩) := fun hne h2 => by
    refine ⟨e1, n1, T1, H1, O1, h2, ⟨L1, hL1⟩, fun hv t h hvw hh => ?_⟩
    obtain ⟨t1, h4, g1, g2, g3⟩ := hs1 hv t h hvw hh
    refine ⟨t1, h4, g1, g2, fun Q hQ => Wps.seq (g3 _ ?_)⟩
    cases e1 with
    | normal => exact absurd rfl hne
    | _ => exact hQ
  cases e1 with
  | normal =>
    obtain ⟨e2, n2, T2, H2, O2, h2, ⟨L2, hL2⟩, hs2⟩ := hb run hrun _ _ _ _ _ _ _ _ h1
    refine ⟨e2, n2, T2, H2, O2, h2, ⟨L2 ++ L1, by rw [hL2, hL1, List.append_assoc]⟩, fun hv t h hvw hh => ?_⟩
    obtain ⟨t1, h4, g1, g2, g3⟩ := hs1 (by rw [hL2] at hv; exact hv.app.2) t h hvw hh
    obtain ⟨t2, h5, g4, g5, g6⟩ := hs2 hv t1 h4 g1 g2
    exact ⟨t2, h5, g4, g5, fun Q hQ => Wps.seq (g3 _ (g6 _ hQ))⟩
  | exit i => exact other (fun e => by cases e) h1
  | ret => exact other (fun e => by cases e) h1
  | goto l => cases h1
  | panic c => cases h1
  | outgrown => cases h1
theorem cdX_some {G : List Nat} {c : Operand} {T : FX} {k : X → RRX} {r} (h : cdX G c T k = some r) : ∃ v, k v = some r ∧ ∀ t, VG G t T → ev t c = some v.dec := by
  unfold cdX at h
  split at h
  · rename_i j
    split at h
    · rename_i p hp
      obtain ⟨v, hv, h⟩ := oX_some h
      exact ⟨v, h, fun t ht => ht p j v (posG_some hp) (rdS_get hv)⟩
    · cases h
  · exact ⟨_, h, fun t _ => by rw [encV_dec]; rfl⟩
  · cases h
theorem condX_ok {P : Program} {G : List Nat} {c : Operand} {a b : StmX} {x y : SCode} (ha : StmXOk P G a x) (hb : StmXOk P G b y) : StmXOk P G (condX G c a b) (.cond c x y) := by
  intro run hrun kn ke kr n T H O r h
  obtain ⟨v, h, hv0⟩ := cdX_some h
  obtain ⟨hT, h⟩ := ifX_some h
  have hd := boolX_dec hT
  rcases iteX_some h with ⟨hb1, h⟩ | ⟨hb1, h⟩ <;> rw [hb1] at hd
  · obtain ⟨e1, n1, T1, H1, O1, h0, h1, h2⟩ := ha run hrun _ _ _ _ _ _ _ _ h
    refine ⟨e1, n1, T1, H1, O1, h0, h1, fun hv t h hvw hh => ?_⟩
    obtain ⟨t', h', h3, h4, h5⟩ := h2 hv t h hvw hh
    exact ⟨t', h', h3, h4, fun Q hQ => Wps.cond (b := true) (by rw [← hd]; exact hv0 t hvw) (h5 Q hQ)⟩
  · obtain ⟨e1, n1, T1, H1, O1, h0, h1, h2⟩ := hb run hrun _ _ _ _ _ _ _ _ h
    refine ⟨e1, n1, T1, H1, O1, h0, h1, fun hv t h hvw hh => ?_⟩
    obtain ⟨t', h', h3, h4, h5⟩ := h2 hv t h hvw hh
    exact ⟨t', h', h3, h4, fun Q hQ => Wps.cond (b := false) (by rw [← hd]; exact hv0 t hvw) (h5 Q hQ)⟩
theorem blockX_ok {P : Program} {G : List Nat} {id : Nat} {a : StmX} {x : SCode} (ha : StmXOk P G a x) : StmXOk P G (blockX id a) (.block id x) := by
  intro run hrun kn ke kr n T H O r h
  obtain ⟨e1, n1, T1, H1, O1, h1, hL1, hs1⟩ := ha run hrun _ _ _ _ _ _ _ _ h
  have go : ∀ e, selK e kn ke kr n1 T1 H1 O1 = some r → (∀ Q : Exit → St → Prop, ∀ s, Q e s → blockK id Q e1 s) → ∃ e n' T' H' O', selK e kn ke kr n' T' H' O' = some r ∧ (∃ L, O' = L ++ O) ∧ (Valid P O' → ∀ t h, VG G t T → HEq' h (decH H) → ∃ t' h', VG G t' T' ∧ HEq' h' (decH H') ∧ Goes P (.block id x) ⟨n, t, h⟩ e ⟨n', t', h'⟩) := fun e he hk => by
    refine ⟨e, n1, T1, H1, O1, he, hL1, fun hv t h hvw hh => ?_⟩
    obtain ⟨t1, h4, g1, g2, g3⟩ := hs1 hv t h hvw hh
    exact ⟨t1, h4, g1, g2, fun Q hQ => Wps.block (g3 _ (hk Q _ hQ))⟩
  cases e1 with
  | normal => exact go .normal h1 fun Q s hQ => hQ
  | exit i =>
    rcases iteX_some (show iteX (Nat.beq i id) (kn n1 T1 H1 O1) (ke i n1 T1 H1 O1) = some r from h1) with ⟨hb, h⟩ | ⟨hb, h⟩
    · exact go .normal h fun Q s hQ => by simp only [blockK, if_pos (Nat.eq_of_beq_eq_true hb)]; exact hQ
    · exact go (.exit i) h fun Q s hQ => by simp only [blockK, if_neg (Nat.ne_of_beq_eq_false hb)]; exact hQ
  | ret => exact go .ret h1 fun Q s hQ => hQ
  | goto l => cases h1
  | panic c => cases h1
  | outgrown => cases h1
theorem loopX_ok {P : Program} {G : List Nat} {a : StmX} {c : SCode} (ha : StmXOk P G a c) (run : RunX) (hrun : RunXOk P run) (kn : KN) (ke : Nat → KN) (kr : KN) : ∀ (f : Nat) n T H O r, loopX G a f run kn ke kr n T H O = some r →
    ∃ e n' T' H' O', selK e kn ke kr n' T' H' O' = some r ∧ (∃ L, O' = L ++ O) ∧ e ≠ .normal ∧ (Valid P O' → ∀ t h, VG G t T → HEq' h (decH H) → ∃ t' h', VG G t' T' ∧ HEq' h' (decH H') ∧
      ∃ (m : Nat) (S : Nat → St), S 0 = ⟨n, t, h⟩ ∧ (∀ i, i < m → ∃ s1, Goes P c (S i) .normal s1 ∧ Wk s1 (S (i + 1))) ∧ Goes P c (S m) e ⟨n', t', h'⟩) := by
  intro f
  induction f with
  | zero => intro n T H O r h; cases h
  | succ f ih =>
    intro n T H O r h
    have h : a run (fun n T H O => gcXX G T H fun T H => loopX G a f run kn ke kr n T H O) ke kr n T H O = some r := h
    obtain ⟨e1, n1, T1, H1, O1, h1, ⟨L1, hL1⟩, hs1⟩ := ha run hrun _ _ _ _ _ _ _ _ h
    have other : e1 ≠ .normal → selK e1 kn ke kr n1 T1 H1 O1 = some r → ∃ e n' T' H' O', selK e kn ke kr n' T' H' O' = some r ∧ (∃ L, O' = L ++ O) ∧ e ≠ .normal ∧ (Valid P O' → ∀ t h, VG G t T → HEq' h (decH H) → ∃ t' h', VG G t' T' ∧ HEq' h' (decH H') ∧
        ∃ (m : Nat) (S : Nat → St), S 0 = ⟨n, t, h⟩ ∧ (∀ i, i < m → ∃ s1, Goes P c (S i) .normal s1 ∧ Wk s1 (S (i + 1))) ∧ Goes P c (S m) e ⟨n', t', h'⟩) := fun hne h2 => by
      refine ⟨e1, n1, T1, H1, O1, h2, ⟨L1, hL1⟩, hne, fun hv t h3 hvw hh => ?_⟩
      obtain ⟨t1, h4, g1, g2, g3⟩ := hs1 hv t h3 hvw hh
      exact ⟨t1, h4, g1, g2, 0, fun _ => ⟨n, t, h3⟩, rfl, fun i hi => absurd hi (by omega), g3⟩
    cases e1 with
    | normal =>
      obtain ⟨T2, H2, h, hgc⟩ := gcX_some (show gcXX G T1 H1 (fun T H => loopX G a f run kn ke kr n1 T H O1) = some r from h1)
      obtain ⟨e', n', T', H', O', h0, ⟨L2, hL2⟩, hne, hs2⟩ := ih _ _ _ _ _ h
      refine ⟨e', n', T', H', O', h0, ⟨L2 ++ L1, by rw [hL2, hL1, List.append_assoc]⟩, hne, fun hv t h3 hvw hh => ?_⟩
      obtain ⟨t1, h4, g1, g2, g3⟩ := hs1 (by rw [hL2] at hv; exact hv.app.2) t h3 hvw hh
      obtain ⟨t2, h5, g4, g5, g6⟩ := hgc n1 t1 h4 g1 g2
      obtain ⟨t', h', g7, g8, m, S, g9, g10, g11⟩ := hs2 hv t2 h5 g4 g5
      refine ⟨t', h', g7, g8, m + 1, fun i => match i with | 0 => ⟨n, t, h3⟩ | i + 1 => S i, rfl, fun i hi => ?_, g11⟩
      cases i with
      | zero => exact ⟨_, g3, by simp only [g9]; exact g6⟩
      | succ i => exact g10 i (by omega)
    | exit i => exact other (fun e => by cases e) h1
    | ret => exact other (fun e => by cases e) h1
    | goto l => cases h1
    | panic c => cases h1
    | outgrown => cases h1
theorem loopXX_ok {P : Program} {G : List Nat} {a : StmX} {c : SCode} (ha : StmXOk P G a c) (f : Nat) : StmXOk P G (loopX G a f) (.loop c) := by
  intro run hrun kn ke kr n T H O r h
  obtain ⟨e', n', T', H', O', h0, h1, hne, h2⟩ := loopX_ok ha run hrun kn ke kr _ _ _ _ _ _ h
  refine ⟨e', n', T', H', O', h0, h1, fun hv t h hvw hh => ?_⟩
  obtain ⟨t', h', h3, h4, m, S, g1, g2, g3⟩ := h2 hv t h hvw hh
  exact ⟨t', h', h3, h4, loop_of hne m S g1 g2 g3⟩
theorem compX_ok {P : Program} {orc : Option Orc} {G : List Nat} : ∀ (sc : SCode), allStat sc = true → StmXOk P G (compX orc G sc) sc
  | .skip => fun _ => skipX_ok
  | .exit i => fun _ => exitX_ok
  | .ret => fun _ => retXX_ok
  | .region ops true => fun hst => by
    have h1 : StmXOk P G (rgX (regD orc G ops) (slowY G (comp (.region ops true)))) (.region ops true) := rgX_ok (regD_ok hst) (regD_n hst) (slowY_ok (comp_ok _ hst))
    have h2 : StmXOk P G (rgX (regF orc G ops) (slowY G (comp (.region ops true)))) (.region ops true) := rgX_ok (regF_ok hst) (regF_n hst) (slowY_ok (comp_ok _ hst))
    simp only [compX]
    cases stOk ops with
    | true => exact h1
    | false => exact h2
  | .region ops false => fun hst => rgX_ok regX_ok regX_n (slowY_ok (comp_ok _ hst))
  | .seq a b => fun hst => seqX_ok (compX_ok a (and1 hst)) (compX_ok b (and2 hst))
  | .cond c x y => fun hst => condX_ok (compX_ok x (and1 hst)) (compX_ok y (and2 hst))
  | .block id c => fun hst => blockX_ok (compX_ok c hst)
  | .loop c => fun hst => loopXX_ok (compX_ok c hst) _
end Go.Eng

namespace Go.Eng
open Go
noncomputable section
abbrev KR := List X → Option ROX
def ifR (b : Bool) (k : Option ROX) : Option ROX := @Bool.rec (fun _ => Option ROX) none k b
def oXR (x : Option X) (k : X → Option ROX) : Option ROX := @Option.rec X (fun _ => Option ROX) none k x
def getR (H : HX) (b : Nat) (k : XO → Option ROX) : Option ROX := @List.rec XO (fun _ => Option ROX) none (fun p _ ih => @Bool.rec (fun _ => Option ROX) ih (k p) (Nat.beq p.b b)) H
def celR (ag : Bool) (sz : Nat) (l : List X) (k : X → Option ROX) : Option ROX := @Bool.rec (fun _ => Option ROX) (@List.rec X (fun _ => Option ROX) none (fun c _ _ => k c) l) (ifR (Nat.beq sz (lenX l)) (k ⟨2, l, oZ⟩)) ag
def slO (G : List Nat) (j : Nat) (T : FX) (k : X → Option ROX) : Option ROX := match posG G j with
  | some p => oXR (rdS p T) k
  | none => none
def retKX (G : List Nat) (T : FX) (H : HX) : List SRes → KR → Option ROX
  | [], k => k []
  | .tmp j :: l, k => slO G j T fun x => retKX G T H l fun xs => k (x :: xs)
  | .cell j ag sz :: l, k => slO G j T fun p => ifR (isT p 7) (ifR (Nat.beq (pJ p) 0) (getR H (pB p) fun o => ifR (Nat.beq o.k 0) (celR ag sz o.l fun x => retKX G T H l fun xs => k (x :: xs))))
def bxsX (k : Nat) (bs : List (List X)) (H : HX) : HX := @List.rec (List X) (fun _ => Nat → HX) (fun _ => H) (fun l _ ih k => ⟨k, 0, 0, 0, l, .dead⟩ :: ih (Nat.succ k)) bs k
def rwsX (k : Nat) (gs : List XO) : HX := @List.rec XO (fun _ => Nat → HX) (fun _ => []) (fun o _ ih k => ⟨k, o.k, o.e, o.sz, o.l, o.o⟩ :: ih (Nat.succ k)) gs k
def outsX (bs : List (List X)) (gs : List XO) : HX := bxsX 0 bs (rwsX 4 gs)
def iniD (M : Nat) : Nat → List (Option X) → List X → (FX → Option ROX) → Option ROX
  | 0, acc, xs, k => @List.rec X (fun _ => Option ROX) (k (clsX M acc.reverse .nil)) (fun _ _ _ => none) xs
  | na + 1, acc, xs, k => @List.rec X (fun _ => Option ROX) none (fun x l _ => iniD M na (some x :: acc) l k) xs
structure FunX where
  st : StmX
  ini : List X → (FX → Option ROX) → Option ROX
  rt : FX → HX → KR → Option ROX
  dp : Bool
def endR (F : FunX) (r : XRX) : Option ROX := F.rt r.T r.H fun vs => some ⟨vs, r.H, r.O, F.dp⟩
def doneK : KN := fun n T H O => some ⟨.normal, n, T, H, O⟩
def noK : Nat → KN := fun _ _ _ _ _ => none
def runSX (F : FunX) (run : RunX) (xs : List X) (H : HX) : Option ROX := F.ini xs fun T => @Option.rec XRX (fun _ => Option ROX) none (fun r => endR F r) (F.st run doneK noK doneK 8 T H [])
def hookX (hook : Hook) (f : FuncId) (xs : List X) (bs : List (List X)) (gs : List XO) : Option ROX := match Nat.blt f opB, gs with
  | true, [] => match hook f (decL xs) (bs.map decL) with
    | some (r, bs') => some ⟨[enc r], outsX (bs'.map encL) [], [⟨f, decL xs, bs.map decL, r, bs'⟩], false⟩
    | none => none
  | _, _ => none
def smX (sm : Hook) (f : FuncId) (xs : List X) (bs : List (List X)) (gs : List XO) : Option ROX := match gs with
  | [] => match sm f (decL xs) (bs.map decL) with
    | some (r, bs') => some ⟨[enc r], outsX (bs'.map encL) [], [], false⟩
    | none => none
  | _ => none
def stepX (hook : Hook) (hs : List FuncId) (sm : Hook) (code : FuncId → Option FunX) (ih : RunX) : RunX := fun f xs bs gs =>
  @Bool.rec (fun _ => Option ROX) (@Option.rec ROX (fun _ => Option ROX) (@Option.rec FunX (fun _ => Option ROX) none (fun F => runSX F ih xs (outsX bs gs)) (code f)) (fun r => some r) (smX sm f xs bs gs)) (hookX hook f xs bs gs) (memL f hs)
def runXX (hook : Hook) (hs : List FuncId) (sm : Hook) (code : FuncId → Option FunX) (k : Nat) : RunX := @Nat.rec (fun _ => RunX) (fun _ _ _ _ => none) (fun _ ih => stepX hook hs sm code ih) k
end
theorem ifR_some {b : Bool} {k : Option ROX} {r} (h : ifR b k = some r) : b = true ∧ k = some r := by
  cases b with
  | true => exact ⟨rfl, h⟩
  | false => cases h
theorem oXR_some {x : Option X} {k : X → Option ROX} {r} (h : oXR x k = some r) : ∃ y, x = some y ∧ k y = some r := by
  cases x with
  | none => cases h
  | some x => exact ⟨x, rfl, h⟩
theorem getR_some : ∀ {H : HX} {b : Nat} {k : XO → Option ROX} {r}, getR H b k = some r → ∃ p, get (decH H) b = some p.decO ∧ k p = some r
  | [], b, k, r, h => by cases h
  | p :: H, b, k, r, h => by
    have h' : @Bool.rec (fun _ => Option ROX) (getR H b k) (k p) (Nat.beq p.b b) = some r := h
    cases hb : Nat.beq p.b b with
    | true =>
      rw [hb] at h'
      exact ⟨p, by simp only [decH, get]; rw [if_pos (Nat.eq_of_beq_eq_true hb)], h'⟩
    | false =>
      rw [hb] at h'
      obtain ⟨q, h1, h2⟩ := getR_some (H := H) h'
      exact ⟨q, by simp only [decH, get]; rw [if_neg (Nat.ne_of_beq_eq_false hb)]; exact h1, h2⟩
theorem slO_some {G : List Nat} {j : Nat} {T : FX} {k : X → Option ROX} {r} (h : slO G j T k = some r) : ∃ y, k y = some r ∧ ∀ t, VG G t T → get t j = some y.dec := by
  unfold slO at h
  split at h
  · rename_i p hp
    obtain ⟨y, hy, h⟩ := oXR_some h
    exact ⟨y, h, fun t ht => ht p j y (posG_some hp) (rdS_get hy)⟩
  · cases h
theorem retKX_some {G : List Nat} {T : FX} {H : HX} : ∀ {l : List SRes} {k : KR} {r}, retKX G T H l k = some r → ∃ vs, k vs = some r ∧ ∀ t, VG G t T → retV t (decH H) l = some (decL vs)
  | [], k, r, h => ⟨[], h, fun t _ => by simp only [retV, decL]⟩
  | .tmp j :: l, k, r, h => by
    simp only [retKX] at h
    obtain ⟨x, h, hx⟩ := slO_some h
    obtain ⟨vs, hk, hv⟩ := retKX_some h
    exact ⟨x :: vs, hk, fun t ht => by simp only [retV, hx t ht, hv t ht, decL]⟩
  | .cell j ag sz :: l, k, r, h => by
    simp only [retKX] at h
    obtain ⟨p, h, hx⟩ := slO_some h
    obtain ⟨h1, h⟩ := ifR_some h
    obtain ⟨h2, h⟩ := ifR_some h
    obtain ⟨o, hg, h⟩ := getR_some h
    obtain ⟨h3, h⟩ := ifR_some h
    have hd : p.dec = .ptr (pB p) 0 := by rw [isT7 h1, Nat.eq_of_beq_eq_true h2]
    rw [XO.dec0 (Nat.eq_of_beq_eq_true h3)] at hg
    cases ag with
    | true =>
      obtain ⟨h4, h⟩ := ifR_some (b := Nat.beq sz (lenX o.l)) h
      have h4 := Nat.eq_of_beq_eq_true h4
      rw [lenX_eq] at h4
      obtain ⟨vs, hk, hv⟩ := retKX_some h
      exact ⟨_, hk, fun t ht => by simp only [retV, hx t ht, hd, hv t ht, hg, if_true, decL_len, if_pos h4, decL, dec_agg]⟩
    | false =>
      cases hl : o.l with
      | nil => rw [hl] at h; cases h
      | cons c cs =>
        rw [hl] at h
        obtain ⟨vs, hk, hv⟩ := retKX_some (k := fun xs => k (c :: xs)) h
        exact ⟨_, hk, fun t ht => by simp only [retV, hx t ht, hd, hv t ht, hg, hl, decL, Bool.false_eq_true, if_false]⟩
theorem rwsX_dec : ∀ (gs : List XO) (k : Nat), decH (rwsX k gs) = obsFrom k (gs.map XO.decO)
  | [], k => rfl
  | o :: gs, k => by
    have e : rwsX k (o :: gs) = ⟨k, o.k, o.e, o.sz, o.l, o.o⟩ :: rwsX (k + 1) gs := rfl
    rw [e]
    simp only [decH, List.map, obsFrom, rwsX_dec gs (k + 1)]
    rfl
theorem bxsX_dec : ∀ (bs : List (List X)) (k : Nat) (H : HX), decH (bxsX k bs H) = boxesFrom k (bs.map decL) ++ decH H
  | [], k, H => rfl
  | l :: bs, k, H => by
    have e : bxsX k (l :: bs) H = ⟨k, 0, 0, 0, l, .dead⟩ :: bxsX (k + 1) bs H := rfl
    rw [e]
    simp only [decH, bxsX_dec bs (k + 1) H]
    simp only [boxesFrom, List.map, obsFrom, List.cons_append, XO.decO]
theorem outsX_dec (bs : List (List X)) (gs : List XO) : decH (outsX bs gs) = outs (bs.map decL) (gs.map XO.decO) := by
  unfold outsX outs
  rw [bxsX_dec, rwsX_dec]
theorem iniD_some {M : Nat} : ∀ {na : Nat} {acc : List (Option X)} {xs : List X} {K : FX → Option ROX} {r}, iniD M na acc xs K = some r → K (clsX M (acc.reverse ++ xs.map some) .nil) = some r ∧ xs.length = na
  | 0, acc, xs, K, r, h => by
    cases xs with
    | nil =>
      have h : K (clsX M acc.reverse .nil) = some r := h
      exact ⟨by simpa using h, rfl⟩
    | cons x l => cases h
  | na + 1, acc, xs, K, r, h => by
    cases xs with
    | nil => cases h
    | cons x l =>
      obtain ⟨h1, h2⟩ := iniD_some (show iniD M na (some x :: acc) l K = some r from h)
      exact ⟨by simpa [List.reverse_cons, List.append_assoc] using h1, by simp only [List.length_cons, h2]⟩
def argsG (G : List Nat) (na : Nat) : Bool := (List.range G.length).all fun p => bif Nat.blt p na then (match G[p]? with | some k => Nat.beq k p | none => false) else true
def FunXOk (P : Program) (f : FuncId) (F : FunX) : Prop := ∃ sc G res nt na M, StmXOk P G F.st sc ∧ FnOk P f sc res nt ∧ F.ini = iniD M na [] ∧ argsG G na = true ∧ na ≤ nt ∧ F.rt = fun T H => retKX G T H res
def CodeXOk (P : Program) (code : FuncId → Option FunX) : Prop := ∀ f F, code f = some F → FunXOk P f F
theorem view_ini {G : List Nat} {na M : Nat} (hG : argsG G na = true) (xs : List X) (hl : xs.length = na) : VG G (tFrom 0 (decL xs)) (clsX M (xs.map some) .nil) := by
  intro p k x hk hx
  rw [clsX_get] at hx
  split at hx
  · have hp : p < na := by
      rw [← hl]
      cases hh : (xs.map some)[p]? with
      | none => rw [hh] at hx; cases hx
      | some c => simpa using (List.getElem?_eq_some_iff.1 hh).1
    have hpG : p < G.length := (List.getElem?_eq_some_iff.1 hk).1
    have h1 := List.all_eq_true.1 hG p (List.mem_range.2 hpG)
    rw [show Nat.blt p na = true from Nat.ble_eq_true_of_le hp, hk] at h1
    have h1 : k = p := Nat.eq_of_beq_eq_true h1
    subst h1
    rw [get_tFrom]
    simp only [Nat.zero_le, if_true, Nat.sub_zero]
    rw [decL_get]
    rw [List.getElem?_map] at hx
    cases hh : xs[k]? with
    | none => rw [hh] at hx; cases hx
    | some c => rw [hh] at hx; simp only [Option.map_some, Option.getD_some, Option.some.injEq] at hx; subst hx; rfl
  · simp [gtF, FX.l] at hx
theorem encLs_dec (bs : List (List AV)) : (bs.map encL).map decL = bs := by
  rw [List.map_map]; conv => rhs; rw [← List.map_id bs]
  exact List.map_congr_left fun x _ => encL_dec x
theorem ans_ok {P : Program} {f : FuncId} {xs : List AV} {bs : List (List AV)} {r : AV} {bs' : List (List AV)} (hF : FnG P f xs bs [] r bs' []) :
    ∃ t res, retV t (decH (outsX (bs'.map encL) [])) res = some (decL [enc r]) ∧ ∀ r1 bs1 es1, Fin res r1 bs1 es1 t (decH (outsX (bs'.map encL) [])) → FnG P f xs bs [] r1 bs1 es1 := by
  have e : decH (outsX (bs'.map encL) []) = outs bs' [] := by rw [outsX_dec, encLs_dec]; rfl
  rw [e]
  refine ⟨[(0, r)], [.tmp 0], by simp only [retV, get, if_true, decL, enc_dec], fun r1 bs1 es1 hFin => ?_⟩
  exact FnG.of_use hF hFin
theorem runSX_ok {P : Program} {f : FuncId} {F : FunX} (hF : FunXOk P f F) {run : RunX} (ih : RunXOk P run) {xs : List X} {bs : List (List X)} {gs : List XO} {vs : List X} {h : HX} {O : List Use} {dp : Bool} (e : runSX F run xs (outsX bs gs) = some ⟨vs, h, O, dp⟩) (hv : Valid P O) :
    ∃ t res, retV t (decH h) res = some (decL vs) ∧ ∀ r bs' es, Fin res r bs' es t (decH h) → FnG P f (decL xs) (bs.map decL) (gs.map XO.decO) r bs' es := by
  obtain ⟨sc, G, res, nt, na, M, hst, hok, hini, hG, hna, hrt⟩ := hF
  unfold runSX at e
  rw [hini] at e
  obtain ⟨e, hl⟩ := iniD_some e
  simp only [List.reverse_nil, List.nil_append] at e
  cases h1 : F.st run doneK noK doneK 8 (clsX M (xs.map some) .nil) (outsX bs gs) [] with
  | none => rw [h1] at e; cases e
  | some rr =>
    rw [h1] at e
    have e : endR F rr = some ⟨vs, h, O, dp⟩ := e
    obtain ⟨ex, n, T, H, O1, hsel, _, hs⟩ := hst _ ih _ _ _ _ _ _ _ _ h1
    have hex : (ex = .normal ∨ ex = .ret) ∧ rr = ⟨.normal, n, T, H, O1⟩ := by
      cases ex with
      | normal => cases hsel; exact ⟨.inl rfl, rfl⟩
      | ret => cases hsel; exact ⟨.inr rfl, rfl⟩
      | exit i => cases hsel
      | goto l => cases hsel
      | panic c => cases hsel
      | outgrown => cases hsel
    obtain ⟨hex, rfl⟩ := hex
    unfold endR at e
    rw [hrt] at e
    obtain ⟨vs1, h3, h4⟩ := retKX_some (T := T) (H := H) e
    simp only [Option.some.injEq, ROX.mk.injEq] at h3
    obtain ⟨rfl, rfl, rfl, rfl⟩ := h3
    obtain ⟨t', h', g1, g2, g3⟩ := hs hv (tFrom 0 (decL xs)) (outs (bs.map decL) (gs.map XO.decO)) (view_ini hG xs hl) (by rw [outsX_dec]; exact fun _ => rfl)
    refine ⟨t', res, h4 t' g1, fun r bs' es hFin => ?_⟩
    refine FnG.of_wpc (Q := fun e s => e = ex ∧ s = ⟨n, t', h'⟩) hok (fun e s hes => ?_) (by rw [decL_len, hl]; exact hna) (g3 _ ⟨rfl, rfl⟩)
    obtain ⟨rfl, rfl⟩ := hes
    exact ⟨hex, _, g2, hFin⟩
theorem runXX_ok {P : Program} {hook : Hook} {hs : List FuncId} {sm : Hook} {code : FuncId → Option FunX} (hsm : SmOk P sm) (hc : CodeXOk P code) : ∀ k, RunXOk P (runXX hook hs sm code k) := by
  intro k
  induction k with
  | zero => intro f xs bs gs vs h O dp e; cases e
  | succ k ih =>
    intro f xs bs gs vs h O dp e hv
    have e : stepX hook hs sm code (runXX hook hs sm code k) f xs bs gs = some ⟨vs, h, O, dp⟩ := e
    unfold stepX at e
    cases hm : memL f hs with
    | true =>
      rw [hm] at e
      have e : hookX hook f xs bs gs = some ⟨vs, h, O, dp⟩ := e
      unfold hookX at e
      generalize hb : Nat.blt f opB = q at e
      split at e
      · split at e
        · rename_i r bs' hk
          simp only [Option.some.injEq, ROX.mk.injEq] at e
          obtain ⟨rfl, rfl, rfl, rfl⟩ := e
          exact ans_ok ((hv ⟨f, decL xs, bs.map decL, r, bs'⟩ (by simp)).fn hb)
        · cases e
      · cases e
    | false =>
      rw [hm] at e
      cases hsx : smX sm f xs bs gs with
      | some r0 =>
        rw [hsx] at e
        have e : some r0 = some ⟨vs, h, O, dp⟩ := e
        cases e
        unfold smX at hsx
        split at hsx
        · split at hsx
          · rename_i r bs' hk
            simp only [Option.some.injEq, ROX.mk.injEq] at hsx
            obtain ⟨rfl, rfl, rfl, rfl⟩ := hsx
            exact ans_ok (hsm _ _ _ _ _ hk)
          · cases hsx
        · cases hsx
      | none =>
        rw [hsx] at e
        cases hcf : code f with
        | none => rw [hcf] at e; cases e
        | some F =>
          rw [hcf] at e
          exact runSX_ok (hc f F hcf) ih e hv
noncomputable def finP (r : Option ROX) : Option (X × List Use) := @Option.rec ROX (fun _ => Option (X × List Use)) none (fun r => @Bool.rec (fun _ => Option (X × List Use))
  (match finG 0 [] (decL r.vs) (decH r.h) with
    | some (v, _, _) => some (enc v, r.O)
    | none => none) (@Bool.rec (fun _ => Option (X × List Use)) none (some (retX r.vs, r.O)) (noLoX r.h)) (purL r.vs)) r
theorem fin_pure {vs : List AV} {t : List (Nat × AV)} {h : Hp} {res : List SRes} (hrv : retV t h res = some vs) (hpv : pureL vs = true) (hlo : noLo h = true) : Fin res (retOne vs) [] [] t h := by
  have hpr : (retOne vs).pure = true := by
    unfold retOne
    split
    · simpa [pureL] using hpv
    · simpa [AV.pure] using hpv
  have hk : okS h [] [] [] = true := by
    simp only [okS, keep1, noLo_get hlo (show (0:Nat) < 4 by omega), noLo_get hlo (show (1:Nat) < 4 by omega), noLo_get hlo (show (2:Nat) < 4 by omega), noLo_get hlo (show (3:Nat) < 4 by omega)]
    simp
  exact Fin.eq0 vs hrv hk hpr rfl
theorem finP_ok {P : Program} {f : FuncId} {xs : List X} {r0 : Option ROX} {r : X} {O : List Use} (e : finP r0 = some (r, O)) (hv : Valid P O)
    (hr : ∀ vs h O dp, r0 = some ⟨vs, h, O, dp⟩ → Valid P O → ∃ t res, retV t (decH h) res = some (decL vs) ∧ ∀ r bs' es, Fin res r bs' es t (decH h) → FnG P f (decL xs) [] [] r bs' es) : FnG P f (decL xs) [] [] r.dec [] [] := by
  cases r0 with
  | none => cases e
  | some r0 =>
    obtain ⟨vs, h, O1, dp⟩ := r0
    unfold finP at e
    simp only at e
    cases hp : purL vs with
    | false =>
      rw [hp] at e
      simp only at e
      split at e
      · rename_i r' b es hP
        simp only [Option.some.injEq, Prod.mk.injEq] at e
        obtain ⟨rfl, rfl⟩ := e
        obtain ⟨t, res, hrv, hrun⟩ := hr _ _ _ _ rfl hv
        obtain ⟨hF, hl, _⟩ := finG_ok hrv hP
        have hb0 : b = [] := List.length_eq_zero_iff.1 hl
        subst hb0
        have he0 : es = [] := finG_nil hP
        subst he0
        rw [enc_dec]
        exact hrun _ _ _ hF
      · cases e
    | true =>
      rw [hp] at e
      simp only at e
      cases hlo : noLoX h with
      | false => rw [hlo] at e; cases e
      | true =>
        rw [hlo] at e
        simp only [Option.some.injEq, Prod.mk.injEq] at e
        obtain ⟨rfl, rfl⟩ := e
        obtain ⟨t, res, hrv, hrun⟩ := hr _ _ _ _ rfl hv
        rw [retX_dec]
        rw [noLoX_eq] at hlo
        exact hrun _ _ _ (fin_pure hrv (purL_ok hp) hlo)
noncomputable def callXP (hook : Hook) (hs : List FuncId) (sm : Hook) (code : FuncId → Option FunX) (k : Nat) (f : FuncId) (xs : List X) : Option (X × List Use) := finP (runXX hook hs sm code k f xs [] [])
theorem callXP_ok {P : Program} {hook : Hook} {hs : List FuncId} {sm : Hook} {code : FuncId → Option FunX} (hsm : SmOk P sm) (hc : CodeXOk P code) {k : Nat} {f : FuncId} {xs : List X} {r : X} {O : List Use} (e : callXP hook hs sm code k f xs = some (r, O)) (hv : Valid P O) : FnG P f (decL xs) [] [] r.dec [] [] :=
  finP_ok e hv fun _ _ _ _ hr hv => runXX_ok hsm hc k _ _ _ _ _ _ _ _ hr hv
noncomputable def callXL (hook : Hook) (hs : List FuncId) (sm : Hook) (code : FuncId → Option FunX) (k : Nat) (F : FunX) (xs : List X) : Option (X × List Use) := finP (runSX F (runXX hook hs sm code k) xs [])
theorem callXL_ok {P : Program} {hook : Hook} {hs : List FuncId} {sm : Hook} {code : FuncId → Option FunX} (hsm : SmOk P sm) (hc : CodeXOk P code) {k : Nat} {f : FuncId} {F : FunX} (hF : FunXOk P f F) {xs : List X} {r : X} {O : List Use} (e : callXL hook hs sm code k F xs = some (r, O)) (hv : Valid P O) : FnG P f (decL xs) [] [] r.dec [] [] :=
  finP_ok e hv fun _ _ _ _ hr hv => runSX_ok (bs := []) (gs := []) hF (runXX_ok hsm hc k) hr hv
def OptXOk (P : Program) (f : FuncId) (x : Option FunX) : Prop := ∀ F, x = some F → FunXOk P f F
theorem OptXOk.none {P : Program} {f : FuncId} : OptXOk P f none := fun F h => by cases h
theorem OptXOk.some {P : Program} {orc : Option Orc} {f : FuncId} {sc : SCode} {st : StmX} {G : List Nat} {ini : List X → (FX → Option ROX) → Option ROX} {res : List SRes} {nt na M : Nat} {rt : FX → HX → KR → Option ROX} {dp : Bool} (h : FnOk P f sc res nt) (hst : allStat sc = true) (hc : st = compX orc G sc)
    (hi : ini = iniD M na []) (hn : (argsG G na && Nat.ble na nt) = true) (hrt : rt = fun T H => retKX G T H res) : OptXOk P f (some ⟨st, ini, rt, dp⟩) := fun F e => by
  cases e
  exact ⟨sc, G, res, nt, na, M, hc ▸ compX_ok sc hst, h, hi, and1 hn, Nat.le_of_ble_eq_true (and2 hn), hrt⟩
noncomputable def bt (k i : Nat) : Bool := Nat.beq (Nat.land (Nat.shiftRight k i) 1) 1
noncomputable def selB {α : Type} (b : Bool) (x y : α) : α := @Bool.rec (fun _ => α) x y b
noncomputable def N16.getB {α : Type} (n : N16 α) (k : Nat) : α := @N16.rec α (fun _ => α) (fun a0 a1 a2 a3 a4 a5 a6 a7 a8 a9 a10 a11 a12 a13 a14 a15 =>
  selB (bt k 3) (selB (bt k 2) (selB (bt k 1) (selB (bt k 0) a0 a1) (selB (bt k 0) a2 a3)) (selB (bt k 1) (selB (bt k 0) a4 a5) (selB (bt k 0) a6 a7)))
    (selB (bt k 2) (selB (bt k 1) (selB (bt k 0) a8 a9) (selB (bt k 0) a10 a11)) (selB (bt k 1) (selB (bt k 0) a12 a13) (selB (bt k 0) a14 a15)))) n
theorem N16.getB_eq {α : Type} (n : N16 α) {k : Nat} (h : k < 16) : n.getB k = n.get k := by
  rcases lt16 h with rfl | rfl | rfl | rfl | rfl | rfl | rfl | rfl | rfl | rfl | rfl | rfl | rfl | rfl | rfl | rfl <;> rfl
noncomputable def codeXOf (tab : N16 (N16 (N16 (Option FunX)))) (f : Nat) : Option FunX := @Bool.rec (fun _ => Option FunX) none (((tab.getB (Nat.shiftRight f 8)).getB (Nat.land (Nat.shiftRight f 4) 15)).getB (Nat.land f 15)) (Nat.blt f 4096)
theorem codeXOf_ok {P : Program} {tab : N16 (N16 (N16 (Option FunX)))} (h : tab.allI (fun g n => n.allI (fun i n => n.allI (fun j x => OptXOk P (g * 256 + i * 16 + j) x)))) : CodeXOk P (codeXOf tab) := by
  have key : ∀ (f : Nat) (F : FunX), codeXOf tab f = some F → FunXOk P f F := by
    intro f F e
    unfold codeXOf at e
    cases hb : Nat.blt f 4096 with
    | false => rw [hb] at e; cases e
    | true =>
      rw [hb] at e
      have hf : f < 4096 := blt_lt hb
      have e1 : Nat.shiftRight f 8 = f / 256 := Nat.shiftRight_eq_div_pow f 8
      have e2 : Nat.land (Nat.shiftRight f 4) 15 = f / 16 % 16 := by
        have : Nat.shiftRight f 4 = f / 16 := Nat.shiftRight_eq_div_pow f 4
        rw [this]; exact Nat.and_two_pow_sub_one_eq_mod _ 4
      have e3 : Nat.land f 15 = f % 16 := Nat.and_two_pow_sub_one_eq_mod _ 4
      have e : ((tab.getB (Nat.shiftRight f 8)).getB (Nat.land (Nat.shiftRight f 4) 15)).getB (Nat.land f 15) = some F := e
      rw [e1, e2, e3, N16.getB_eq _ (show f / 256 < 16 by omega), N16.getB_eq _ (show f / 16 % 16 < 16 by omega), N16.getB_eq _ (show f % 16 < 16 by omega)] at e
      have h1 := N16.allI_get (N16.allI_get (N16.allI_get h (show f / 256 < 16 by omega)) (show f / 16 % 16 < 16 by omega)) (show f % 16 < 16 by omega)
      have h2 := h1 F e
      rw [show f / 256 * 256 + f / 16 % 16 * 16 + f % 16 = f by omega] at h2
      exact h2
  exact key
def rowZX : N16 (Option FunX) := ⟨none, none, none, none, none, none, none, none, none, none, none, none, none, none, none, none⟩
def pageZX : N16 (N16 (Option FunX)) := ⟨rowZX, rowZX, rowZX, rowZX, rowZX, rowZX, rowZX, rowZX, rowZX, rowZX, rowZX, rowZX, rowZX, rowZX, rowZX, rowZX⟩
theorem rowZX_ok {p : Nat → Option FunX → Prop} (h : ∀ j, p j none) : rowZX.allI p := ⟨h _, h _, h _, h _, h _, h _, h _, h _, h _, h _, h _, h _, h _, h _, h _, h _⟩
theorem pageZX_ok {P : Program} {g : Nat} : pageZX.allI (fun i n => n.allI (fun j x => OptXOk P (g * 256 + i * 16 + j) x)) :=
  have h : ∀ i, rowZX.allI (fun j x => OptXOk P (g * 256 + i * 16 + j) x) := fun i => rowZX_ok fun j => OptXOk.none
  ⟨h _, h _, h _, h _, h _, h _, h _, h _, h _, h _, h _, h _, h _, h _, h _, h _⟩
end Go.Eng

namespace Go.Eng
open Go
noncomputable section
def f1 (T : FX) : Option X := @FX.rec (fun _ => Option X) none (fun _ b _ _ _ _ => b) T
def f2 (T : FX) : Option X := @FX.rec (fun _ => Option X) none (fun _ _ d _ _ _ => d) T
def f3 (T : FX) : Option X := @FX.rec (fun _ => Option X) none (fun _ _ _ e _ _ => e) T
def f4 (T : FX) : Option X := @FX.rec (fun _ => Option X) none (fun _ _ _ _ r _ => @FX.rec (fun _ => Option X) none (fun a _ _ _ _ _ => a) r) T
def f5 (T : FX) : Option X := @FX.rec (fun _ => Option X) none (fun _ _ _ _ r _ => @FX.rec (fun _ => Option X) none (fun _ b _ _ _ _ => b) r) T
def f6 (T : FX) : Option X := @FX.rec (fun _ => Option X) none (fun _ _ _ _ r _ => @FX.rec (fun _ => Option X) none (fun _ _ d _ _ _ => d) r) T
def f7 (T : FX) : Option X := @FX.rec (fun _ => Option X) none (fun _ _ _ _ r _ => @FX.rec (fun _ => Option X) none (fun _ _ _ e _ _ => e) r) T
def f8 (T : FX) : Option X := @FX.rec (fun _ => Option X) none (fun _ _ _ _ r _ => @FX.rec (fun _ => Option X) none (fun _ _ _ _ r _ => @FX.rec (fun _ => Option X) none (fun a _ _ _ _ _ => a) r) r) T
def f9 (T : FX) : Option X := @FX.rec (fun _ => Option X) none (fun _ _ _ _ r _ => @FX.rec (fun _ => Option X) none (fun _ _ _ _ r _ => @FX.rec (fun _ => Option X) none (fun _ b _ _ _ _ => b) r) r) T
def f10 (T : FX) : Option X := @FX.rec (fun _ => Option X) none (fun _ _ _ _ r _ => @FX.rec (fun _ => Option X) none (fun _ _ _ _ r _ => @FX.rec (fun _ => Option X) none (fun _ _ d _ _ _ => d) r) r) T
def f11 (T : FX) : Option X := @FX.rec (fun _ => Option X) none (fun _ _ _ _ r _ => @FX.rec (fun _ => Option X) none (fun _ _ _ _ r _ => @FX.rec (fun _ => Option X) none (fun _ _ _ e _ _ => e) r) r) T
def f12 (T : FX) : Option X := @FX.rec (fun _ => Option X) none (fun _ _ _ _ r _ => @FX.rec (fun _ => Option X) none (fun _ _ _ _ r _ => @FX.rec (fun _ => Option X) none (fun _ _ _ _ r _ => @FX.rec (fun _ => Option X) none (fun a _ _ _ _ _ => a) r) r) r) T
def f13 (T : FX) : Option X := @FX.rec (fun _ => Option X) none (fun _ _ _ _ r _ => @FX.rec (fun _ => Option X) none (fun _ _ _ _ r _ => @FX.rec (fun _ => Option X) none (fun _ _ _ _ r _ => @FX.rec (fun _ => Option X) none (fun _ b _ _ _ _ => b) r) r) r) T
def f14 (T : FX) : Option X := @FX.rec (fun _ => Option X) none (fun _ _ _ _ r _ => @FX.rec (fun _ => Option X) none (fun _ _ _ _ r _ => @FX.rec (fun _ => Option X) none (fun _ _ _ _ r _ => @FX.rec (fun _ => Option X) none (fun _ _ d _ _ _ => d) r) r) r) T
def f15 (T : FX) : Option X := @FX.rec (fun _ => Option X) none (fun _ _ _ _ r _ => @FX.rec (fun _ => Option X) none (fun _ _ _ _ r _ => @FX.rec (fun _ => Option X) none (fun _ _ _ _ r _ => @FX.rec (fun _ => Option X) none (fun _ _ _ e _ _ => e) r) r) r) T
def f16 (T : FX) : Option X := @FX.rec (fun _ => Option X) none (fun _ _ _ _ r _ => @FX.rec (fun _ => Option X) none (fun _ _ _ _ r _ => @FX.rec (fun _ => Option X) none (fun _ _ _ _ r _ => @FX.rec (fun _ => Option X) none (fun _ _ _ _ r _ => @FX.rec (fun _ => Option X) none (fun a _ _ _ _ _ => a) r) r) r) r) T
def f17 (T : FX) : Option X := @FX.rec (fun _ => Option X) none (fun _ _ _ _ r _ => @FX.rec (fun _ => Option X) none (fun _ _ _ _ r _ => @FX.rec (fun _ => Option X) none (fun _ _ _ _ r _ => @FX.rec (fun _ => Option X) none (fun _ _ _ _ r _ => @FX.rec (fun _ => Option X) none (fun _ b _ _ _ _ => b) r) r) r) r) T
def f18 (T : FX) : Option X := @FX.rec (fun _ => Option X) none (fun _ _ _ _ r _ => @FX.rec (fun _ => Option X) none (fun _ _ _ _ r _ => @FX.rec (fun _ => Option X) none (fun _ _ _ _ r _ => @FX.rec (fun _ => Option X) none (fun _ _ _ _ r _ => @FX.rec (fun _ => Option X) none (fun _ _ d _ _ _ => d) r) r) r) r) T
def f19 (T : FX) : Option X := @FX.rec (fun _ => Option X) none (fun _ _ _ _ r _ => @FX.rec (fun _ => Option X) none (fun _ _ _ _ r _ => @FX.rec (fun _ => Option X) none (fun _ _ _ _ r _ => @FX.rec (fun _ => Option X) none (fun _ _ _ _ r _ => @FX.rec (fun _ => Option X) none (fun _ _ _ e _ _ => e) r) r) r) r) T
def f20 (T : FX) : Option X := @FX.rec (fun _ => Option X) none (fun _ _ _ _ r _ => @FX.rec (fun _ => Option X) none (fun _ _ _ _ r _ => @FX.rec (fun _ => Option X) none (fun _ _ _ _ r _ => @FX.rec (fun _ => Option X) none (fun _ _ _ _ r _ => @FX.rec (fun _ => Option X) none (fun _ _ _ _ r _ => @FX.rec (fun _ => Option X) none (fun a _ _ _ _ _ => a) r) r) r) r) r) T
end
end Go.Eng

namespace Go.Eng
open Go
noncomputable section
end
end Go.Eng
