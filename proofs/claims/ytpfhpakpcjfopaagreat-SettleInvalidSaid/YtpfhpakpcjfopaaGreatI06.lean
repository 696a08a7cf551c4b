/-
  Part of a proof: lemmas and definitions of this work.
  No condition.
-/
import Derived.WalkKit
import Derived.Test.YtpfhpakpcjfopaaGreatI02
set_option linter.all false
set_option maxRecDepth 100000
set_option maxHeartbeats 8000000
namespace Go.M
open Go
noncomputable section
structure X where
 n:Nat
 l:List X
 o:Value
def oZ:Value:= .nilFunc
abbrev R:=Option (List Prop)
abbrev cnd {α:Type} (b:Bool) (t e:α):α:= @Bool.rec (fun _=>α) e t b
abbrev ah (b:Bool) (t e:R):R:= @Bool.rec (fun _=>R) e t b
theorem aF {b:Bool} {t e:R} {r} (h:ah b t e=some r):(b=true/\t=some r)\/(b=false/\e=some r):=by
 cases b
 ·exact .inr ⟨rfl,h⟩
 ·exact .inl ⟨rfl,h⟩
theorem aI {b:Bool} {t:R} {r} (h:ah b t none=some r):b=true/\t=some r:=by
 cases b
 ·cases h
 ·exact ⟨rfl,h⟩
abbrev aJ (n:Nat) (k:Nat->R):R:= @Nat.rec (fun _=>R) none (fun m _=>k m) (Nat.succ n)
theorem mI (n:Nat) (k:Nat->R):aJ n k=k n:=rfl
abbrev opn (x:X) (k:Nat->List X->Value->R):R:= @X.rec (fun _=>R) (fun _=>Unit) (fun n l o _=>k n l o) () (fun _ _ _ _=>()) x
theorem fo (x:X) (k:Nat->List X->Value->R):opn x k=k x.n x.l x.o:=by cases x;rfl
structure N4 (α:Type) where
 a:α
 b:α
 c:α
 d:α
structure EA (α:Type) where
 g:α->X
structure Jt (α:Type) where
 f:α->X->(α->R)->R
structure Tree (α:Type) where
 get:Nat->EA α
 put:Nat->Jt α
 pt:α->Nat->X->α
 bits:Nat
def eO (b i:Nat):Bool:=Nat.beq (Nat.land 1 (Nat.shiftRight b i)) 0
theorem aiZ (b i:Nat):eO b i= !(b.testBit i):=by
 unfold eO Nat.testBit
 show Nat.beq (1&&&(b>>>i)) 0=_
 cases h:(1&&&(b>>>i)) with
 |zero=>simp
 |succ m=>simp;rfl
def uX (k b b':Nat):Prop:=∀ i,i<k->b.testBit i=b'.testBit i
structure pJ {α:Type} (T:Tree α):Prop where
 put_eq:∀ t b x k,(T.put b).f t x k=k (T.pt t b x)
 self:∀ t b b' x,uX T.bits b b'->(T.get b').g (T.pt t b x)=x
 other:∀ t b b' x,¬ uX T.bits b b'->(T.get b').g (T.pt t b x)=(T.get b').g t
def Ju:Tree X:=⟨fun _=>⟨fun t=>t⟩,fun _=>⟨fun _ x k=>k x⟩,fun _ _ x=>x,0⟩
theorem ai0:pJ Ju:=⟨fun _ _ _ _=>rfl,fun _ _ _ _ _=>rfl,fun _ _ _ _ h=>absurd (fun i hi=>absurd hi (Nat.not_lt_zero _)) h⟩
abbrev EB {α:Type} (x:N4 α) (k:α->α->α->α->R):R:= @N4.rec α (fun _=>R) (fun a b c d=>k a b c d) x
def pK {α:Type} (g:Nat->EA α) (i j:Nat) (b:Nat):EA (N4 α):=
 cnd (eO b i) (cnd (eO b j) ⟨fun t=>(g b).g t.a⟩ ⟨fun t=>(g b).g t.c⟩) (cnd (eO b j) ⟨fun t=>(g b).g t.b⟩ ⟨fun t=>(g b).g t.d⟩)
def Jv {α:Type} (p:Nat->Jt α) (i j:Nat) (b:Nat):Jt (N4 α):=
 cnd (eO b i) (cnd (eO b j) ⟨fun t x k=>EB t fun ta tb tc td=>(p b).f ta x fun y=>k ⟨y,tb,tc,td⟩⟩ ⟨fun t x k=>EB t fun ta tb tc td=>(p b).f tc x fun y=>k ⟨ta,tb,y,td⟩⟩)
  (cnd (eO b j) ⟨fun t x k=>EB t fun ta tb tc td=>(p b).f tb x fun y=>k ⟨ta,y,tc,td⟩⟩ ⟨fun t x k=>EB t fun ta tb tc td=>(p b).f td x fun y=>k ⟨ta,tb,tc,y⟩⟩)
def xq {α:Type} (p:α->Nat->X->α) (i j:Nat) (t:N4 α) (b:Nat) (x:X):N4 α:=
 bif eO b i then (bif eO b j then ⟨p t.a b x,t.b,t.c,t.d⟩ else ⟨t.a,t.b,p t.c b x,t.d⟩)
 else (bif eO b j then ⟨t.a,p t.b b x,t.c,t.d⟩ else ⟨t.a,t.b,t.c,p t.d b x⟩)
def sW {α:Type} (T:Tree α) (i j:Nat):Tree (N4 α):=⟨pK T.get i j,Jv T.put i j,xq T.pt i j,T.bits+2⟩
theorem uY {α:Type} {T:Tree α} {i j:Nat} (hi:T.bits=i) (hj:j=i+1) (h:pJ T):pJ (sW T i j):=by
 subst hj
 have OV:∀ b b',uX (T.bits+2) b b'↔uX T.bits b b'/\eO b i=eO b' i/\eO b (i+1)=eO b' (i+1):=by
  intro b b'
  simp only [aiZ,uX,hi]
  constructor
  ·intro hs
   exact ⟨fun j hj=>hs j (by omega),by rw [hs i (by omega)],by rw [hs (i+1) (by omega)]⟩
  ·rintro ⟨h1,h2,h3⟩ j hj
   by_cases e1:j=i
   ·subst e1;simpa using h2
   ·by_cases e2:j=i+1
    ·subst e2;simpa using h3
    ·exact h1 j (by omega)
 refine ⟨fun t b x k=> ?_,fun t b b' x hs=> ?_,fun t b b' x hs=> ?_⟩
 ·show (Jv T.put i (i+1) b).f t x k=k (xq T.pt i (i+1) t b x)
  unfold Jv xq
  cases t
  cases eO b i<;>cases eO b (i+1)<;>exact h.put_eq _ _ _ _
 ·show (pK T.get i (i+1) b').g (xq T.pt i (i+1) t b x)=x
  obtain ⟨h1,h2,h3⟩:=(OV b b').1 hs
  unfold pK xq
  rw [<-h2,<-h3]
  cases eO b i<;>cases eO b (i+1)<;>exact h.self _ _ _ _ h1
 ·show (pK T.get i (i+1) b').g (xq T.pt i (i+1) t b x)=(pK T.get i (i+1) b').g t
  have hn:¬ (uX T.bits b b'/\eO b i=eO b' i/\eO b (i+1)=eO b' (i+1)):=fun hh=>hs ((OV b b').2 hh)
  unfold pK xq
  cases e1:eO b i<;>cases e2:eO b (i+1)<;>cases e3:eO b' i<;>cases e4:eO b' (i+1)<;>first
   |rfl
   |exact h.other _ _ _ _ (fun hh=>hn ⟨hh,by rw [e1,e3],by rw [e2,e4]⟩)
abbrev T1:=N4 X
abbrev T2:=N4 T1
abbrev T3:=N4 T2
abbrev T4:=N4 T3
abbrev T5:=N4 T4
abbrev T6:=N4 T5
abbrev T7:=N4 T6
abbrev T8:=N4 T7
def Jw:Tree T1:=sW Ju 0 1
def Jy:Tree T2:=sW Jw 2 3
def eP:Tree T3:=sW Jy 4 5
def OW:Tree T4:=sW eP 6 7
def OX:Tree T5:=sW OW 8 9
def OY:Tree T6:=sW OX 10 11
def OZ:Tree T7:=sW OY 12 13
def eT:Tree T8:=sW OZ 14 15
theorem ai1:pJ Jw:=uY rfl rfl ai0
theorem ai2:pJ Jy:=uY rfl rfl ai1
theorem zK:pJ eP:=uY rfl rfl ai2
theorem ai3:pJ OW:=uY rfl rfl zK
theorem ai4:pJ OX:=uY rfl rfl ai3
theorem ai5:pJ OY:=uY rfl rfl ai4
theorem ai6:pJ OZ:=uY rfl rfl ai5
theorem BX:pJ eT:=uY rfl rfl ai6
theorem Jz {k b b':Nat} (h:uX k b b') (hb:b<2 ^ k) (hb':b'<2 ^ k):b=b':=by
 apply Nat.eq_of_testBit_eq
 intro i
 rcases Nat.lt_or_ge i k with hi|hi
 ·exact h i hi
 ·rw [Nat.testBit_lt_two_pow (Nat.lt_of_lt_of_le hb (Nat.pow_le_pow_right (by decide) hi)),Nat.testBit_lt_two_pow (Nat.lt_of_lt_of_le hb' (Nat.pow_le_pow_right (by decide) hi))]
theorem JA (k b:Nat):uX k b b:=fun _ _=>rfl
end
end Go.M
namespace Go.M
open Go
noncomputable section
structure Vw where
 S:Nat->Prop
 ρ:Nat->Nat
 σ:Nat->Nat
 ε:Nat->Nat
structure Ext (V V':Vw):Prop where
 S:∀ b,V.S b->V'.S b
 ρ:∀ b,V.S b->V'.ρ b=V.ρ b
 σ:∀ b,V.S b->V'.σ b=V.σ b
 ε:∀ b,V.S b->V'.ε b=V.ε b
theorem Ext.refl (V:Vw):Ext V V:=⟨fun _ h=>h,fun _ _=>rfl,fun _ _=>rfl,fun _ _=>rfl⟩
theorem Ext.trans {V V' sZ:Vw} (h:Ext V V') (h':Ext V' sZ):Ext V sZ:=
 ⟨fun b hb=>h'.S b (h.S b hb),fun b hb=>(h'.ρ b (h.S b hb)).trans (h.ρ b hb),fun b hb=>(h'.σ b (h.S b hb)).trans (h.σ b hb),fun b hb=>(h'.ε b (h.S b hb)).trans (h.ε b hb)⟩
def EC (c:Nat):IntKind:=match c with
 |0=> .u8
 |1=> .u16
 |2=> .u32
 |3=> .u64
 |4=> .i8
 |5=> .i16
 |6=> .i32
 |_=> .i64
def jC (f:Nat) (vs:Array Value):Value:=if f<1000000 then .func (.func f) #[] vs else .func (.func (f - 1000000)) vs #[]
def one (v:Value):Prop:=v.oneCell'=true
mutual
def den (V:Vw):X->Value->Prop
 |⟨n,l,o⟩,u=>match n % 32 with
  |0=>u= .int .i64 (Int.ofNat (n / 32))
  |1=>u= .bool (Nat.beq (n / 32) 1)
  |2=>∃ vs:List Value,u= .agg vs.toArray/\(∀ v ∈ vs,one v)/\aU V l vs/\vs.length=n / 32
  |3=>∃ vs:List Value,u= .tuple vs.toArray/\aU V l vs
  |4=>u= .int (EC (n / 32 % 16)) (Int.ofNat (n / 512))
  |5=>u= .int .i64 (- Int.ofNat (n / 32))
  |6=>u= .slice none 0 0
  |7=>V.S (n / 32 / 1048576)/\u= .pointer (some ⟨V.ρ (n / 32 / 1048576),n / 32 % 1048576,none⟩)
  |8=>V.S (n / 64 / 1048576 / 1048576)/\∃ cap,u= .slice (some ⟨V.ρ (n / 64 / 1048576 / 1048576),n / 64 / 1048576 % 1048576,none⟩) (n / 64 % 1048576) cap/\n / 64 % 1048576<=cap/\
   (n / 32 % 2=1->cap=n / 64 % 1048576)/\(n / 32 % 2=0->n / 64 / 1048576 % 1048576+cap*V.ε (n / 64 / 1048576 / 1048576)=V.σ (n / 64 / 1048576 / 1048576))
  |9=>∃ vs:List Value,u=jC (n / 32) vs.toArray/\aU V l vs
  |10=>V.S (n / 32)/\u= .map (some (V.ρ (n / 32)))
  |11=>∃ a c,u= .slice (some a) 0 c
  |12=>u=o/\one o
  |13=>u=o/\one o
  |14=>u=undef
  |16=>∃ a n c,u= .slice a n c
  |_=>False
def aU (V:Vw):List X->List Value->Prop
 |[],vs=>vs=[]
 |x::l,vs=>∃ v r,vs=v::r/\den V x v/\aU V l r
end
theorem dA {V:Vw} {vs:List Value}:aU V [] vs↔vs=[]:=by simp [aU]
theorem dz {V:Vw} {x:X} {l:List X} {vs:List Value}:aU V (x::l) vs↔∃ v r,vs=v::r/\den V x v/\aU V l r:=by simp [aU]
theorem jh {V:Vw}:∀ {l:List X} {vs:List Value},aU V l vs->vs.length=l.length
 |[],vs,h=>by rw [dA.1 h];rfl
 |x::l,vs,h=>by
  obtain ⟨v,r,rfl,_,h⟩:=dz.1 h
  simp [jh h]
theorem mJ {V:Vw}:∀ {l:List X} {vs:List Value},aU V l vs->∀ {i:Nat} {x:X},l[i]? =some x->∃ v,vs[i]? =some v/\den V x v
 |[],vs,h,i,x,hx=>by simp at hx
 |y::l,vs,h,i,x,hx=>by
  obtain ⟨v,r,rfl,hv,h⟩:=dz.1 h
  cases i with
  |zero=>simp at hx;subst hx;exact ⟨v,rfl,hv⟩
  |succ i=>simpa using mJ h (by simpa using hx)
theorem JB {V:Vw}:∀ {l:List X} {vs:List Value},vs.length=l.length->(∀ (i:Nat) (x:X) (v:Value),l[i]? =some x->vs[i]? =some v->den V x v)->aU V l vs
 |[],vs,h,_=>dA.2 (List.eq_nil_of_length_eq_zero (by simpa using h))
 |x::l,[],h,_=>by simp at h
 |x::l,v::vs,h,hd=>dz.2 ⟨v,vs,rfl,hd 0 x v rfl rfl,JB (by simpa using h) fun i y u hy hu=>hd (i+1) y u (by simpa using hy) (by simpa using hu)⟩
mutual
theorem O0 {V V':Vw} (h:Ext V V'):∀ (x:X) (u:Value),den V x u->den V' x u
 |⟨n,l,o⟩,u=>by
  unfold den
  split
  ·exact id
  ·exact id
  ·rintro ⟨vs,h1,h2,h3,h4⟩;exact ⟨vs,h1,h2,BZ h l vs h3,h4⟩
  ·rintro ⟨vs,h1,h3⟩;exact ⟨vs,h1,BZ h l vs h3⟩
  ·exact id
  ·exact id
  ·exact id
  ·rintro ⟨h1,h2⟩;exact ⟨h.S _ h1,by rw [h2,h.ρ _ h1]⟩
  ·rintro ⟨h1,cap,h2,h3,h4,h5⟩
   exact ⟨h.S _ h1,cap,by rw [h2,h.ρ _ h1],h3,h4,fun e=>by rw [h.ε _ h1,h.σ _ h1];exact h5 e⟩
  ·rintro ⟨vs,h1,h3⟩;exact ⟨vs,h1,BZ h l vs h3⟩
  ·rintro ⟨h1,h2⟩;exact ⟨h.S _ h1,by rw [h2,h.ρ _ h1]⟩
  ·exact id
  ·exact id
  ·exact id
  ·exact id
  ·exact id
  ·exact id
theorem BZ {V V':Vw} (h:Ext V V'):∀ (l:List X) (vs:List Value),aU V l vs->aU V' l vs
 |[],vs=>by unfold aU;exact id
 |x::l,vs=>by
  unfold aU
  rintro ⟨v,r,h1,h2,h3⟩
  exact ⟨v,r,h1,O0 h x v h2,BZ h l r h3⟩
end
theorem den.mono {V V':Vw} {x:X} {u:Value} (h:Ext V V') (hx:den V x u):den V' x u:=O0 h x u hx
theorem aU.mono {V V':Vw} {l:List X} {vs:List Value} (h:Ext V V') (hx:aU V l vs):aU V' l vs:=BZ h l vs hx
section
variable {V:Vw} {x:X} {u:Value}
theorem dO (h:x.n % 32=0):den V x u↔u= .int .i64 (Int.ofNat (x.n / 32)):=by obtain ⟨n,l,o⟩:=x;simp only at h;simp only [den,h]
theorem lI (h:x.n % 32=1):den V x u↔u= .bool (Nat.beq (x.n / 32) 1):=by obtain ⟨n,l,o⟩:=x;simp only at h;simp only [den,h]
theorem lJ (h:x.n % 32=2):den V x u↔∃ vs:List Value,u= .agg vs.toArray/\(∀ v ∈ vs,one v)/\aU V x.l vs/\vs.length=x.n / 32:=by obtain ⟨n,l,o⟩:=x;simp only at h;simp only [den,h]
theorem xu (h:x.n % 32=3):den V x u↔∃ vs:List Value,u= .tuple vs.toArray/\aU V x.l vs:=by obtain ⟨n,l,o⟩:=x;simp only at h;simp only [den,h]
theorem oh (h:x.n % 32=4):den V x u↔u= .int (EC (x.n / 32 % 16)) (Int.ofNat (x.n / 512)):=by obtain ⟨n,l,o⟩:=x;simp only at h;simp only [den,h]
theorem Ca (h:x.n % 32=5):den V x u↔u= .int .i64 (- Int.ofNat (x.n / 32)):=by obtain ⟨n,l,o⟩:=x;simp only at h;simp only [den,h]
theorem jX (h:x.n % 32=6):den V x u↔u= .slice none 0 0:=by obtain ⟨n,l,o⟩:=x;simp only at h;simp only [den,h]
theorem mK (h:x.n % 32=7):den V x u↔V.S (x.n / 32 / 1048576)/\u= .pointer (some ⟨V.ρ (x.n / 32 / 1048576),x.n / 32 % 1048576,none⟩):=by obtain ⟨n,l,o⟩:=x;simp only at h;simp only [den,h]
theorem gT (h:x.n % 32=8):den V x u↔V.S (x.n / 64 / 1048576 / 1048576)/\∃ cap,u= .slice (some ⟨V.ρ (x.n / 64 / 1048576 / 1048576),x.n / 64 / 1048576 % 1048576,none⟩) (x.n / 64 % 1048576) cap/\x.n / 64 % 1048576<=cap/\
  (x.n / 32 % 2=1->cap=x.n / 64 % 1048576)/\(x.n / 32 % 2=0->x.n / 64 / 1048576 % 1048576+cap*V.ε (x.n / 64 / 1048576 / 1048576)=V.σ (x.n / 64 / 1048576 / 1048576)):=by
 obtain ⟨n,l,o⟩:=x;simp only at h;simp only [den,h]
theorem xw (h:x.n % 32=9):den V x u↔∃ vs:List Value,u=jC (x.n / 32) vs.toArray/\aU V x.l vs:=by obtain ⟨n,l,o⟩:=x;simp only at h;simp only [den,h]
theorem uZ (h:x.n % 32=10):den V x u↔V.S (x.n / 32)/\u= .map (some (V.ρ (x.n / 32))):=by obtain ⟨n,l,o⟩:=x;simp only at h;simp only [den,h]
theorem zL (h:x.n % 32=11):den V x u↔∃ a c,u= .slice (some a) 0 c:=by obtain ⟨n,l,o⟩:=x;simp only at h;simp only [den,h]
theorem jY (h:x.n % 32=12\/x.n % 32=13):den V x u↔u=x.o/\one x.o:=by
 obtain ⟨n,l,o⟩:=x;simp only at h
 rcases h with h|h<;>simp only [den,h]
theorem ED (h:x.n % 32=14):den V x u↔u=undef:=by obtain ⟨n,l,o⟩:=x;simp only at h;simp only [den,h]
theorem O1 (h:x.n % 32=16):den V x u↔∃ a n c,u= .slice a n c:=by obtain ⟨n,l,o⟩:=x;simp only at h;simp only [den,h]
theorem xA (h:den V x u) (h2:x.n % 32≠2) (h3:x.n % 32≠3) (fD:x.n % 32≠14):one u:=by
 obtain ⟨n,l,o⟩:=x
 unfold den at h
 simp only at h2 h3 fD
 split at h
 ·subst h;rfl
 ·subst h;rfl
 ·exact absurd (by assumption) h2
 ·exact absurd (by assumption) h3
 ·subst h;rfl
 ·subst h;rfl
 ·subst h;rfl
 ·rw [h.2];rfl
 ·obtain ⟨_,cap,rfl,_⟩:=h;rfl
 ·obtain ⟨vs,rfl,_⟩:=h;unfold jC;split<;>rfl
 ·rw [h.2];rfl
 ·obtain ⟨a,c,rfl⟩:=h;rfl
 ·rw [h.1];exact h.2
 ·rw [h.1];exact h.2
 ·exact absurd (by assumption) fD
 ·obtain ⟨a,n,c,rfl⟩:=h;rfl
 ·exact h.elim
end
structure Hp where
 n:Nat
 fl:Nat
 t:T8
 fa:List Prop
 q:List X
abbrev gH (h:Hp) (b:Nat):X:=(eT.get b).g h.t
def live (x:X):Prop:=x.n % 32=1\/x.n % 32=2\/x.n % 32=3
def bg (V:Vw) (e:Nat) (rows:List X) (cells:Array Value):Prop:=
 ∀ q row,rows[q]? =some row->row.n=32*e+2/\row.l.length=e/\∀ j c,row.l[j]? =some c->∃ u,cells[q*e+j]? =some u/\one u/\den V c u
def iE (V:Vw):List X->List MapEntry->Prop
 |[],es=>es=[]
 |x::l,es=>∃ e r c,es=e::r/\x.l=[c]/\den V ⟨x.n,[],oZ⟩ e.key/\(∃ k n,e.key= .int k n)/\den V c e.val/\iE V l r
def bH (V:Vw) (w:World) (b:Nat) (x:X):Prop:=
 match x.n % 32 with
 |1=>∃ cells e,w.heap[V.ρ b]? =some (.cells cells e (0,0))/\cells.size=V.σ b/\x.n / 32=V.ε b/\0<V.ε b/\x.l.length*V.ε b=V.σ b/\bg V (V.ε b) x.l cells
 |2=>∃ cells e,w.heap[V.ρ b]? =some (.cells cells e (0,0))/\cells.size=V.σ b/\x.n / 32=V.ε b/\0<V.ε b/\x.l.length*V.ε b<=V.σ b/\bg V (V.ε b) x.l cells
 |3=>∃ es c,w.heap[V.ρ b]? =some (.map es c)/\iE V x.l es.toList
 |_=>True
class aY where
 Φ:World->Prop
variable [aY]
structure MR (w0:World) (V:Vw) (h:Hp) (w:World):Prop where
 nb:∀ b,V.S b->b<h.n/\b<65536
 bl:∀ b,V.S b->bH V w b (gH h b)
 inj:∀ b b',V.S b->V.S b'->live (gH h b)->live (gH h b')->V.ρ b=V.ρ b'->b=b'
 nw:∀ b,V.S b->w0.heap.size<=V.ρ b/\V.ρ b<w.heap.size
 old:∀ g,g<w0.heap.size->w.heap[g]? =w0.heap[g]?
 sz:w0.heap.size<=w.heap.size
 os:w.os=w0.os
 tape:w.tape=w0.tape
 output:w.output=w0.output
 ar:aY.Φ w0
structure aM (fl:Nat) (h h':Hp):Prop where
 n:h.n<=h'.n
 fe:h'.fl=h.fl
 get:∀ b,b<fl->b<h.n->b<65536->gH h' b=gH h b
 fa:∀ p ∈ h.fa,p ∈ h'.fa
theorem aM.refl (fl:Nat) (h:Hp):aM fl h h:=⟨Nat.le_refl _,rfl,fun _ _ _ _=>rfl,fun _ h=>h⟩
theorem aM.trans {fl:Nat} {h h' h'':Hp} (a:aM fl h h') (b:aM fl h' h''):aM fl h h'':=
 ⟨Nat.le_trans a.n b.n,b.fe.trans a.fe,fun k hk hn hm=>(b.get k hk (Nat.lt_of_lt_of_le hn a.n) hm).trans (a.get k hk hn hm),fun p hp=>b.fa p (a.fa p hp)⟩
theorem aM.weak {fl zN:Nat} {h h':Hp} (a:aM fl h h') (hl:zN<=fl):aM zN h h':=⟨a.n,a.fe,fun k hk=>a.get k (Nat.lt_of_lt_of_le hk hl),a.fa⟩
structure Stp (fl:Nat) (V:Vw) (h:Hp) (w:World) (V':Vw) (w':World):Prop where
 ext:Ext V V'
 new:∀ b,V'.S b->V.S b\/(h.n<=b/\(w.heap.size<=V'.ρ b\/∃ b0,V.S b0/\fl<=b0/\V'.ρ b=V.ρ b0))
 keep:∀ g,g<w.heap.size->(∀ b,V.S b->fl<=b->V.ρ b≠g)->w'.heap[g]? =w.heap[g]?
 size:w.heap.size<=w'.heap.size
theorem Stp.refl (fl:Nat) (V:Vw) (h:Hp) (w:World):Stp fl V h w V w:=⟨.refl V,fun b hb=> .inl hb,fun _ _ _=>rfl,Nat.le_refl _⟩
theorem Stp.trans {fl:Nat} {V V' sZ:Vw} {h h':Hp} {w w' w'':World} (hn:h.n<=h'.n) (a:Stp fl V h w V' w') (b:Stp fl V' h' w' sZ w''):Stp fl V h w sZ w'':=by
 refine ⟨a.ext.trans b.ext,fun k hk=> ?_,fun g hg hk=> ?_,Nat.le_trans a.size b.size⟩
 ·rcases b.new k hk with h1|⟨h1,h2⟩
  ·rcases a.new k h1 with h3|⟨h3,h4⟩
   ·exact .inl h3
   ·rw [b.ext.ρ k h1];exact .inr ⟨h3,h4⟩
  ·refine .inr ⟨Nat.le_trans hn h1,?_⟩
   rcases h2 with h2|⟨b0,h3,h4,h5⟩
   ·exact .inl (Nat.le_trans a.size h2)
   ·rw [h5]
    rcases a.new b0 h3 with h6|⟨h6,h7⟩
    ·exact .inr ⟨b0,h6,h4,a.ext.ρ b0 h6⟩
    ·exact h7
 ·rw [b.keep g (Nat.lt_of_lt_of_le hg a.size) fun k hk' hf=> ?_,a.keep g hg hk]
  rcases a.new k hk' with h3|⟨h3,h4|⟨b0,h4,h5,h6⟩⟩
  ·rw [a.ext.ρ k h3];exact hk k h3 hf
  ·omega
  ·rw [h6];exact hk b0 h4 h5
theorem Stp.weak {fl zN:Nat} {V V':Vw} {h:Hp} {w w':World} (a:Stp fl V h w V' w') (hl:zN<=fl):Stp zN V h w V' w':=
 ⟨a.ext,fun b hb=>(a.new b hb).imp id fun hh=>⟨hh.1,hh.2.imp id fun ⟨b0,h1,h2,h3⟩=>⟨b0,h1,Nat.le_trans hl h2,h3⟩⟩,fun g hg hk=>a.keep g hg fun b hb hf=>hk b hb (Nat.le_trans hl hf),a.size⟩
theorem bg.mono {V V':Vw} {e:Nat} {rows:List X} {cells:Array Value} (h:Ext V V') (hr:bg V e rows cells):bg V' e rows cells:=fun q row hq=>by
 obtain ⟨h1,h2,h3⟩:=hr q row hq
 exact ⟨h1,h2,fun j c hj=>by
  obtain ⟨u,h4,h5,h6⟩:=h3 j c hj
  exact ⟨u,h4,h5,h6.mono h⟩⟩
theorem iE.mono {V V':Vw} (h:Ext V V'):∀ {l:List X} {es:List MapEntry},iE V l es->iE V' l es
 |[],es,he=>he
 |x::l,es,he=>by
  obtain ⟨e,r,c,h1,h2,h3,h4,h5,h6⟩:=he
  exact ⟨e,r,c,h1,h2,h3.mono h,h4,h5.mono h,h6.mono h⟩
theorem bH.mono {V V':Vw} {w w':World} {b:Nat} {x:X} (h:Ext V V') (hb:V.S b) (hw:w'.heap[V.ρ b]? =w.heap[V.ρ b]?) (hx:bH V w b x):bH V' w' b x:=by
 unfold bH at hx ⊢
 rw [h.ρ b hb,h.σ b hb,h.ε b hb,hw]
 split at hx
 ·obtain ⟨cells,e,h1,h2,h3,h4,h5,h6⟩:=hx
  exact ⟨cells,e,h1,h2,h3,h4,h5,h6.mono h⟩
 ·obtain ⟨cells,e,h1,h2,h3,h4,h5,h6⟩:=hx
  exact ⟨cells,e,h1,h2,h3,h4,h5,h6.mono h⟩
 ·obtain ⟨es,c,h1,h2⟩:=hx
  exact ⟨es,c,h1,h2.mono h⟩
 ·trivial
end
end Go.M
namespace Go.M
open Go
noncomputable section
abbrev Kx:=X->Hp->R
abbrev eD {α:Type} (l:List X) (z:α) (s:X->List X->α):α:= @List.rec X (fun _=>α) z (fun x t _=>s x t) l
abbrev xB (h:Hp) (k:Nat->Nat->T8->List Prop->List X->R):R:= @Hp.rec (fun _=>R) (fun n fl t fa q=>k n fl t fa q) h
def pM (l:List X) (k:X->X->X->X->X->X->X->X->List X->R):R:= @List.rec X (fun _=>R) none (fun a l _=> @List.rec X (fun _=>R) none (fun b l _=> @List.rec X (fun _=>R) none (fun c l _=> @List.rec X (fun _=>R) none (fun d l _=> @List.rec X (fun _=>R) none (fun e l _=> @List.rec X (fun _=>R) none (fun f l _=> @List.rec X (fun _=>R) none (fun g l _=> @List.rec X (fun _=>R) none (fun h l _=>k a b c d e f g h l) l) l) l) l) l) l) l) l
structure mM where
 f:List X->(X->R)->R
def O3:mM:=⟨fun l k=> @List.rec X (fun _=>R) none (fun x _ _=>k x) l⟩
def O4:mM:=⟨fun l k=> @List.rec X (fun _=>R) none (fun a l _=> @List.rec X (fun _=>R) none (fun x _ _=>k x) l) l⟩
def O5:mM:=⟨fun l k=> @List.rec X (fun _=>R) none (fun a l _=> @List.rec X (fun _=>R) none (fun b l _=> @List.rec X (fun _=>R) none (fun x _ _=>k x) l) l) l⟩
def O6:mM:=⟨fun l k=> @List.rec X (fun _=>R) none (fun a l _=> @List.rec X (fun _=>R) none (fun b l _=> @List.rec X (fun _=>R) none (fun c l _=> @List.rec X (fun _=>R) none (fun x _ _=>k x) l) l) l) l⟩
def O7:mM:=⟨fun l k=> @List.rec X (fun _=>R) none (fun a l _=> @List.rec X (fun _=>R) none (fun b l _=> @List.rec X (fun _=>R) none (fun c l _=> @List.rec X (fun _=>R) none (fun d l _=> @List.rec X (fun _=>R) none (fun x _ _=>k x) l) l) l) l) l⟩
def O8:mM:=⟨fun l k=> @List.rec X (fun _=>R) none (fun a l _=> @List.rec X (fun _=>R) none (fun b l _=> @List.rec X (fun _=>R) none (fun c l _=> @List.rec X (fun _=>R) none (fun d l _=> @List.rec X (fun _=>R) none (fun e l _=> @List.rec X (fun _=>R) none (fun x _ _=>k x) l) l) l) l) l) l⟩
def O9:mM:=⟨fun l k=> @List.rec X (fun _=>R) none (fun a l _=> @List.rec X (fun _=>R) none (fun b l _=> @List.rec X (fun _=>R) none (fun c l _=> @List.rec X (fun _=>R) none (fun d l _=> @List.rec X (fun _=>R) none (fun e l _=> @List.rec X (fun _=>R) none (fun f l _=> @List.rec X (fun _=>R) none (fun x _ _=>k x) l) l) l) l) l) l) l⟩
def Pb:mM:=⟨fun l k=> @List.rec X (fun _=>R) none (fun a l _=> @List.rec X (fun _=>R) none (fun b l _=> @List.rec X (fun _=>R) none (fun c l _=> @List.rec X (fun _=>R) none (fun d l _=> @List.rec X (fun _=>R) none (fun e l _=> @List.rec X (fun _=>R) none (fun f l _=> @List.rec X (fun _=>R) none (fun g l _=> @List.rec X (fun _=>R) none (fun x _ _=>k x) l) l) l) l) l) l) l) l⟩
def JC (i:Nat):mM:=cnd (Nat.beq i 0) O3 (cnd (Nat.beq i 1) O4 (cnd (Nat.beq i 2) O5 (cnd (Nat.beq i 3) O6 (cnd (Nat.beq i 4) O7 (cnd (Nat.beq i 5) O8 (cnd (Nat.beq i 6) O9 (Pb)))))))
def kR (i:Nat):mM:= @Nat.rec (fun _=>mM) (JC (Nat.mod i 8)) (fun _ ih=>⟨fun l k=>pM l fun _ _ _ _ _ _ _ _ t=>ih.f t k⟩) (Nat.div i 8)
structure fE where
 f:List X->(List X->R)->R
def Pd:fE:=⟨fun l k=>k l⟩
def Pe:fE:=⟨fun l k=> @List.rec X (fun _=>R) none (fun a l _=>k l) l⟩
def Pf:fE:=⟨fun l k=> @List.rec X (fun _=>R) none (fun a l _=> @List.rec X (fun _=>R) none (fun b l _=>k l) l) l⟩
def Pg:fE:=⟨fun l k=> @List.rec X (fun _=>R) none (fun a l _=> @List.rec X (fun _=>R) none (fun b l _=> @List.rec X (fun _=>R) none (fun c l _=>k l) l) l) l⟩
def Ph:fE:=⟨fun l k=> @List.rec X (fun _=>R) none (fun a l _=> @List.rec X (fun _=>R) none (fun b l _=> @List.rec X (fun _=>R) none (fun c l _=> @List.rec X (fun _=>R) none (fun d l _=>k l) l) l) l) l⟩
def Pj:fE:=⟨fun l k=> @List.rec X (fun _=>R) none (fun a l _=> @List.rec X (fun _=>R) none (fun b l _=> @List.rec X (fun _=>R) none (fun c l _=> @List.rec X (fun _=>R) none (fun d l _=> @List.rec X (fun _=>R) none (fun e l _=>k l) l) l) l) l) l⟩
def Pk:fE:=⟨fun l k=> @List.rec X (fun _=>R) none (fun a l _=> @List.rec X (fun _=>R) none (fun b l _=> @List.rec X (fun _=>R) none (fun c l _=> @List.rec X (fun _=>R) none (fun d l _=> @List.rec X (fun _=>R) none (fun e l _=> @List.rec X (fun _=>R) none (fun f l _=>k l) l) l) l) l) l) l⟩
def Pm:fE:=⟨fun l k=> @List.rec X (fun _=>R) none (fun a l _=> @List.rec X (fun _=>R) none (fun b l _=> @List.rec X (fun _=>R) none (fun c l _=> @List.rec X (fun _=>R) none (fun d l _=> @List.rec X (fun _=>R) none (fun e l _=> @List.rec X (fun _=>R) none (fun f l _=> @List.rec X (fun _=>R) none (fun g l _=>k l) l) l) l) l) l) l) l⟩
def JD (i:Nat):fE:=cnd (Nat.beq i 0) Pd (cnd (Nat.beq i 1) Pe (cnd (Nat.beq i 2) Pf (cnd (Nat.beq i 3) Pg (cnd (Nat.beq i 4) Ph (cnd (Nat.beq i 5) Pj (cnd (Nat.beq i 6) Pk (Pm)))))))
def rz (i:Nat):fE:= @Nat.rec (fun _=>fE) (JD (Nat.mod i 8)) (fun _ ih=>⟨fun l k=>pM l fun _ _ _ _ _ _ _ _ t=>ih.f t k⟩) (Nat.div i 8)
def Pn:fE:=⟨fun l k=>k ([])⟩
def Po:fE:=⟨fun l k=> @List.rec X (fun _=>R) none (fun a l _=>k (a::[])) l⟩
def Pp:fE:=⟨fun l k=> @List.rec X (fun _=>R) none (fun a l _=> @List.rec X (fun _=>R) none (fun b l _=>k (a::b::[])) l) l⟩
def Pq:fE:=⟨fun l k=> @List.rec X (fun _=>R) none (fun a l _=> @List.rec X (fun _=>R) none (fun b l _=> @List.rec X (fun _=>R) none (fun c l _=>k (a::b::c::[])) l) l) l⟩
def Ps:fE:=⟨fun l k=> @List.rec X (fun _=>R) none (fun a l _=> @List.rec X (fun _=>R) none (fun b l _=> @List.rec X (fun _=>R) none (fun c l _=> @List.rec X (fun _=>R) none (fun d l _=>k (a::b::c::d::[])) l) l) l) l⟩
def Pv:fE:=⟨fun l k=> @List.rec X (fun _=>R) none (fun a l _=> @List.rec X (fun _=>R) none (fun b l _=> @List.rec X (fun _=>R) none (fun c l _=> @List.rec X (fun _=>R) none (fun d l _=> @List.rec X (fun _=>R) none (fun e l _=>k (a::b::c::d::e::[])) l) l) l) l) l⟩
def Pw:fE:=⟨fun l k=> @List.rec X (fun _=>R) none (fun a l _=> @List.rec X (fun _=>R) none (fun b l _=> @List.rec X (fun _=>R) none (fun c l _=> @List.rec X (fun _=>R) none (fun d l _=> @List.rec X (fun _=>R) none (fun e l _=> @List.rec X (fun _=>R) none (fun f l _=>k (a::b::c::d::e::f::[])) l) l) l) l) l) l⟩
def Px:fE:=⟨fun l k=> @List.rec X (fun _=>R) none (fun a l _=> @List.rec X (fun _=>R) none (fun b l _=> @List.rec X (fun _=>R) none (fun c l _=> @List.rec X (fun _=>R) none (fun d l _=> @List.rec X (fun _=>R) none (fun e l _=> @List.rec X (fun _=>R) none (fun f l _=> @List.rec X (fun _=>R) none (fun g l _=>k (a::b::c::d::e::f::g::[])) l) l) l) l) l) l) l⟩
def JE (i:Nat):fE:=cnd (Nat.beq i 0) Pn (cnd (Nat.beq i 1) Po (cnd (Nat.beq i 2) Pp (cnd (Nat.beq i 3) Pq (cnd (Nat.beq i 4) Ps (cnd (Nat.beq i 5) Pv (cnd (Nat.beq i 6) Pw (Px)))))))
def takeB (i:Nat):fE:= @Nat.rec (fun _=>fE) (JE (Nat.mod i 8)) (fun _ ih=>⟨fun l k=>pM l fun a b c d e f g h t=>ih.f t fun r=>k (a::b::c::d::e::f::g::h::r)⟩) (Nat.div i 8)
structure mO where
 f:List X->X->(List X->R)->R
def Py:mO:=⟨fun l y k=> @List.rec X (fun _=>R) none (fun _ t _=>k (y::t)) l⟩
def Pz:mO:=⟨fun l y k=> @List.rec X (fun _=>R) none (fun a l _=> @List.rec X (fun _=>R) none (fun _ t _=>k (a::y::t)) l) l⟩
def PD:mO:=⟨fun l y k=> @List.rec X (fun _=>R) none (fun a l _=> @List.rec X (fun _=>R) none (fun b l _=> @List.rec X (fun _=>R) none (fun _ t _=>k (a::b::y::t)) l) l) l⟩
def PE:mO:=⟨fun l y k=> @List.rec X (fun _=>R) none (fun a l _=> @List.rec X (fun _=>R) none (fun b l _=> @List.rec X (fun _=>R) none (fun c l _=> @List.rec X (fun _=>R) none (fun _ t _=>k (a::b::c::y::t)) l) l) l) l⟩
def PG:mO:=⟨fun l y k=> @List.rec X (fun _=>R) none (fun a l _=> @List.rec X (fun _=>R) none (fun b l _=> @List.rec X (fun _=>R) none (fun c l _=> @List.rec X (fun _=>R) none (fun d l _=> @List.rec X (fun _=>R) none (fun _ t _=>k (a::b::c::d::y::t)) l) l) l) l) l⟩
def PI:mO:=⟨fun l y k=> @List.rec X (fun _=>R) none (fun a l _=> @List.rec X (fun _=>R) none (fun b l _=> @List.rec X (fun _=>R) none (fun c l _=> @List.rec X (fun _=>R) none (fun d l _=> @List.rec X (fun _=>R) none (fun e l _=> @List.rec X (fun _=>R) none (fun _ t _=>k (a::b::c::d::e::y::t)) l) l) l) l) l) l⟩
def PK:mO:=⟨fun l y k=> @List.rec X (fun _=>R) none (fun a l _=> @List.rec X (fun _=>R) none (fun b l _=> @List.rec X (fun _=>R) none (fun c l _=> @List.rec X (fun _=>R) none (fun d l _=> @List.rec X (fun _=>R) none (fun e l _=> @List.rec X (fun _=>R) none (fun f l _=> @List.rec X (fun _=>R) none (fun _ t _=>k (a::b::c::d::e::f::y::t)) l) l) l) l) l) l) l⟩
def PL:mO:=⟨fun l y k=> @List.rec X (fun _=>R) none (fun a l _=> @List.rec X (fun _=>R) none (fun b l _=> @List.rec X (fun _=>R) none (fun c l _=> @List.rec X (fun _=>R) none (fun d l _=> @List.rec X (fun _=>R) none (fun e l _=> @List.rec X (fun _=>R) none (fun f l _=> @List.rec X (fun _=>R) none (fun g l _=> @List.rec X (fun _=>R) none (fun _ t _=>k (a::b::c::d::e::f::g::y::t)) l) l) l) l) l) l) l) l⟩
def JF (i:Nat):mO:=cnd (Nat.beq i 0) Py (cnd (Nat.beq i 1) Pz (cnd (Nat.beq i 2) PD (cnd (Nat.beq i 3) PE (cnd (Nat.beq i 4) PG (cnd (Nat.beq i 5) PI (cnd (Nat.beq i 6) PK (PL)))))))
def tq (i:Nat):mO:= @Nat.rec (fun _=>mO) (JF (Nat.mod i 8)) (fun _ ih=>⟨fun l y k=>pM l fun a b c d e f g h t=>ih.f t y fun r=>k (a::b::c::d::e::f::g::h::r)⟩) (Nat.div i 8)
def tu (ys:List X):List X->(List X->R)->R:= @List.rec X (fun _=>List X->(List X->R)->R) (fun l k=>k l) (fun y _ ih l k=>eD l none fun _ t=>ih t fun r=>k (y::r)) ys
structure mP where
 f:List X->List X->(List X->R)->R
def PN:mP:=⟨fun l ys k=>tu ys l fun r=>k (r)⟩
def PO:mP:=⟨fun l ys k=> @List.rec X (fun _=>R) none (fun a l _=>tu ys l fun r=>k (a::r)) l⟩
def PS:mP:=⟨fun l ys k=> @List.rec X (fun _=>R) none (fun a l _=> @List.rec X (fun _=>R) none (fun b l _=>tu ys l fun r=>k (a::b::r)) l) l⟩
def PU:mP:=⟨fun l ys k=> @List.rec X (fun _=>R) none (fun a l _=> @List.rec X (fun _=>R) none (fun b l _=> @List.rec X (fun _=>R) none (fun c l _=>tu ys l fun r=>k (a::b::c::r)) l) l) l⟩
def PW:mP:=⟨fun l ys k=> @List.rec X (fun _=>R) none (fun a l _=> @List.rec X (fun _=>R) none (fun b l _=> @List.rec X (fun _=>R) none (fun c l _=> @List.rec X (fun _=>R) none (fun d l _=>tu ys l fun r=>k (a::b::c::d::r)) l) l) l) l⟩
def PX:mP:=⟨fun l ys k=> @List.rec X (fun _=>R) none (fun a l _=> @List.rec X (fun _=>R) none (fun b l _=> @List.rec X (fun _=>R) none (fun c l _=> @List.rec X (fun _=>R) none (fun d l _=> @List.rec X (fun _=>R) none (fun e l _=>tu ys l fun r=>k (a::b::c::d::e::r)) l) l) l) l) l⟩
def PY:mP:=⟨fun l ys k=> @List.rec X (fun _=>R) none (fun a l _=> @List.rec X (fun _=>R) none (fun b l _=> @List.rec X (fun _=>R) none (fun c l _=> @List.rec X (fun _=>R) none (fun d l _=> @List.rec X (fun _=>R) none (fun e l _=> @List.rec X (fun _=>R) none (fun f l _=>tu ys l fun r=>k (a::b::c::d::e::f::r)) l) l) l) l) l) l⟩
def PZ:mP:=⟨fun l ys k=> @List.rec X (fun _=>R) none (fun a l _=> @List.rec X (fun _=>R) none (fun b l _=> @List.rec X (fun _=>R) none (fun c l _=> @List.rec X (fun _=>R) none (fun d l _=> @List.rec X (fun _=>R) none (fun e l _=> @List.rec X (fun _=>R) none (fun f l _=> @List.rec X (fun _=>R) none (fun g l _=>tu ys l fun r=>k (a::b::c::d::e::f::g::r)) l) l) l) l) l) l) l⟩
def JG (i:Nat):mP:=cnd (Nat.beq i 0) PN (cnd (Nat.beq i 1) PO (cnd (Nat.beq i 2) PS (cnd (Nat.beq i 3) PU (cnd (Nat.beq i 4) PW (cnd (Nat.beq i 5) PX (cnd (Nat.beq i 6) PY (PZ)))))))
def jZ (i:Nat):mP:= @Nat.rec (fun _=>mP) (JG (Nat.mod i 8)) (fun _ ih=>⟨fun l ys k=>pM l fun a b c d e f g h t=>ih.f t ys fun r=>k (a::b::c::d::e::f::g::h::r)⟩) (Nat.div i 8)
def u6 (xs ys:List X) (k:List X->R):R:= @List.rec X (fun _=>(List X->R)->R) (fun k=>k ys) (fun x _ ih k=>ih fun r=>k (x::r)) xs k
def di (l:List X):Nat:= @List.rec X (fun _=>Nat) 0 (fun _ _ ih=>Nat.succ ih) l
def rA (x:X) (n:Nat):List X:= @Nat.rec (fun _=>List X) [] (fun _ ih=>x::ih) n
abbrev aK (n:Nat):X:=⟨n,[],oZ⟩
abbrev xU:X:=⟨14,[],oZ⟩
abbrev xT:X:=⟨33,[],oZ⟩
abbrev xF:X:=⟨1,[],oZ⟩
abbrev kB (b:Bool) (h:Hp) (k:Kx):R:=ah b (k xT h) (k xF h)
def xC (k:IntKind):Nat:=match k with
 | .u8=>0
 | .u16=>1
 | .u32=>2
 | .u64=>3
 | .i8=>4
 | .i16=>5
 | .i32=>6
 | .i64=>7
def encI (q:IntKind) (n:Int):X:=match q,n with
 | .i64,.ofNat m=>⟨Nat.mul 32 m,[],oZ⟩
 | .i64,.negSucc m=>⟨Nat.add (Nat.mul 32 (Nat.succ m)) 5,[],oZ⟩
 |q,.ofNat m=>⟨Nat.add (Nat.add (Nat.mul 512 m) (Nat.mul 32 (xC q))) 4,[],oZ⟩
 |q,n=>⟨12,[],.int q n⟩
def dK (v:Value):X:=match v with
 | .int q n=>encI q n
 | .bool b=>cnd b xT xF
 | .slice none 0 0=>⟨6,[],oZ⟩
 |v=>⟨12,[],v⟩
def om (v:Value) (k:X->R):R:=opn (dK v) fun n l o=>aJ n fun n=>k ⟨n,l,o⟩
def P5 (c:Nat):IntKind:=cnd (Nat.beq c 0) .u8 (cnd (Nat.beq c 1) .u16 (cnd (Nat.beq c 2) .u32 (cnd (Nat.beq c 3) .u64 (cnd (Nat.beq c 4) .i8 (cnd (Nat.beq c 5) .i16 (cnd (Nat.beq c 6) .i32 .i64))))))
def dL (x:X):Option Value:=
 let g:=Nat.land x.n 31
 cnd (Nat.beq g 0) (some (.int .i64 (Int.ofNat (Nat.shiftRight x.n 5)))) (cnd (Nat.beq g 1) (some (.bool (Nat.beq (Nat.shiftRight x.n 5) 1)))
  (cnd (Nat.beq g 4) (some (.int (P5 (Nat.land (Nat.shiftRight x.n 5) 15)) (Int.ofNat (Nat.shiftRight x.n 9))))
  (cnd (Nat.beq g 5) (some (.int .i64 (- Int.ofNat (Nat.shiftRight x.n 5)))) (cnd (Nat.beq (Nat.land g 30) 12) (some x.o) none))))
def pO (x:X) (k:Value->R):R:= @Option.rec Value (fun _=>R) none (fun v=>k v) (dL x)
def oo (y:X) (k:List X->R):R:=opn y fun n l o=>ah (Nat.beq (Nat.land n 31) 2) (k l) (ah (Nat.beq (Nat.land n 31) 3) none (ah (Nat.beq (Nat.land n 31) 14) none (k [⟨n,l,o⟩])))
def oq (blk:X) (h:Hp) (k:Nat->Hp->R):R:=xB h fun n fl t fa q=>ah (Nat.ble n 65535) ((eT.put n).f t blk fun t'=>aJ (Nat.succ n) fun n'=>k n ⟨n',fl,t',fa,q⟩) none
def j6 (b:Nat) (blk:X) (h:Hp) (k:Hp->R):R:=xB h fun n fl t fa q=>ah (Nat.ble fl b) (ah (Nat.ble b 65535) ((eT.put b).f t blk fun t'=>k ⟨n,fl,t',fa,q⟩) none) none
def JH (b:Nat) (h:Hp) (k:Nat->List X->R):R:=opn (gH h b) fun n l _=>k n l
def ai7 (b:Nat) (h:Hp) (k:Kx):R:=aJ (Nat.add (Nat.mul 33554432 b) 7) fun p=>k (aK p) h
def tC (blk:X) (h:Hp) (k:Kx):R:=oq blk h fun b h=>ai7 b h k
def gZ (b off len clip:Nat) (h:Hp) (k:Kx):R:=
 ah (Nat.ble off 1048575) (ah (Nat.ble len 1048575) (aJ (Nat.add (Nat.mul 64 (Nat.add (Nat.mul (Nat.add (Nat.mul b 1048576) off) 1048576) len)) (Nat.add (Nat.mul 32 clip) 8)) fun p=>k (aK p) h) none) none
def zO (p:X) (k:Nat->Nat->R):R:=aJ p.n fun n=>ah (Nat.beq (Nat.land n 31) 7) (aJ (Nat.shiftRight n 25) fun b=>aJ (Nat.land (Nat.shiftRight n 5) 1048575) fun off=>k b off) none
def kS (n:Nat) (k:Nat->Nat->Nat->Nat->R):R:=
 aJ (Nat.shiftRight n 46) fun b=>aJ (Nat.land (Nat.shiftRight n 26) 1048575) fun off=>aJ (Nat.land (Nat.shiftRight n 6) 1048575) fun len=>aJ (Nat.land (Nat.shiftRight n 5) 1) fun c=>k b off len c
def kU (b:Nat) (h:Hp) (k:Nat->Nat->List X->R):R:=JH b h fun n l=>ah (Nat.beq (Nat.land (Nat.succ n) 30) 2) (aJ (Nat.shiftRight n 5) fun e=>k n e l) none
def fF (y:X) (h:Hp) (k:Kx):R:=opn y fun n l o=>k ⟨n,l,o⟩ h
def P6 (c a b:X) (h:Hp) (k:Kx):R:=aJ c.n fun n=>ah (Nat.beq n 33) (fF a h k) (ah (Nat.beq n 1) (fF b h k) none)
def P7 (y:X) (h:Hp) (k:Kx):R:=oo y fun l=>aJ (di l) fun e=>ah (Nat.beq e 0) none (aJ (Nat.add (Nat.mul 32 e) 1) fun n=>aJ (Nat.succ n) fun m=>tC ⟨n,[⟨m,l,oZ⟩],oZ⟩ h k)
def xD (ag:Bool) (sz:Nat) (p:X) (h:Hp) (k:Kx):R:=
 zO p fun b off=>kU b h fun _ e rows=>aJ (Nat.div off e) fun q=>aJ (Nat.mod off e) fun j=>(kR q).f rows fun row=>opn row fun rn cells _=>
  ah ag (ah (Nat.beq sz e) (ah (Nat.beq j 0) (k ⟨rn,cells,oZ⟩ h) none) ((rz j).f cells fun c=>(takeB sz).f c fun c=>k ⟨Nat.add (Nat.mul 32 sz) 2,c,oZ⟩ h))
   ((kR j).f cells fun c=>fF c h k)
def Cb (sz:Nat) (p y:X) (h:Hp) (k:Kx):R:=
 zO p fun b off=>oo y fun ys=>ah (Nat.beq (di ys) sz) (kU b h fun n e rows=>aJ (Nat.div off e) fun q=>aJ (Nat.mod off e) fun j=>(kR q).f rows fun row=>opn row fun rn cells _=>
  (jZ j).f cells ys fun cells=>(tq q).f rows ⟨rn,cells,oZ⟩ fun rows=>j6 b ⟨n,rows,oZ⟩ h fun h=>k xU h) none
def JI (y:X) (h:Hp) (k:Kx):R:=opn y fun n l o=>ah (Nat.beq (Nat.land n 31) 7) (k ⟨n,l,o⟩ h) (ah (Nat.beq (Nat.land n 31) 9) (k ⟨n,l,o⟩ h) none)
abbrev mQ:Nat:=295147905179352825824
def bP (op:BinOp) (x y:Value):Option Value:=match op,x,y with
 | .add,.int k a,.int k' b=>if k=k' then some (.int k (k.wrap (a+b))) else none
 | .sub,.int k a,.int k' b=>if k=k' then some (.int k (k.wrap (a - b))) else none
 | .mul,.int k a,.int k' b=>if k=k' then some (.int k (k.wrap (a*b))) else none
 | .and,.int k a,.int k' b=>if k=k' then some (.int k (bits .and k a b)) else none
 | .or,.int k a,.int k' b=>if k=k' then some (.int k (bits .or k a b)) else none
 | .xor,.int k a,.int k' b=>if k=k' then some (.int k (bits .xor k a b)) else none
 | .eql,.int k a,.int k' b=>if k=k' then some (.bool (a==b)) else none
 | .neq,.int k a,.int k' b=>if k=k' then some (.bool (a !=b)) else none
 | .lss,.int k a,.int k' b=>if k=k' then some (.bool (decide (a<b))) else none
 | .leq,.int k a,.int k' b=>if k=k' then some (.bool (decide (a<=b))) else none
 | .gtr,.int k a,.int k' b=>if k=k' then some (.bool (decide (b<a))) else none
 | .geq,.int k a,.int k' b=>if k=k' then some (.bool (decide (b<=a))) else none
 | .eql,.string a,.string b=>some (.bool (a.data.toList==b.data.toList))
 | .neq,.string a,.string b=>some (.bool (!(a.data.toList==b.data.toList)))
 | .quo,.int k a,.int k' b=>if k=k'/\b≠0 then some (.int k (k.wrap (a.tdiv b))) else none
 | .rem,.int k a,.int k' b=>if k=k'/\b≠0 then some (.int k (a.tmod b)) else none
 | .shl,.int k a,.int _ b=>if 0<=b then some (.int k (k.wrap (a*2 ^ (min b.toNat k.bits)))) else none
 | .shr,.int k a,.int _ b=>if 0<=b then some (.int k (a.fdiv (2 ^ (min b.toNat k.bits)))) else none
 | .add,.string a,.string b=>if a.size+b.size<=1048576 then some (.string (a++b)) else none
 |_,_,_=>none
def iU (p:X->Prop) (h:Hp) (k:Kx):R:=xB h fun n fl t fa q=>eD q none fun x q=>opn x fun a l o=>k ⟨a,l,o⟩ ⟨n,fl,t,p ⟨a,l,o⟩::fa,q⟩
def rC (x:X):Bool:=Nat.beq (Nat.land x.n 31) 13
def pQ (op:BinOp) (a b:X) (c:X):Prop:=∃ u v w,dL a=some u/\dL b=some v/\dL c=some w/\one w/\bP op u v=some w
def ic (op:BinOp) (a b:X) (h:Hp) (k:Kx):R:=ah (rC a) (iU (pQ op a b) h k) (ah (rC b) (iU (pQ op a b) h k)
 (pO a fun u=>pO b fun v=> @Option.rec Value (fun _=>R) none (fun w=>om w fun x=>k x h) (bP op u v)))
def kg (a b:X):Bool:=Nat.beq (Nat.land (Nat.lor a.n b.n) 31) 0
def P8 (a b:X) (h:Hp) (k:Kx):R:=ah (kg a b) (aJ (Nat.add a.n b.n) fun m=>ah (Nat.ble m mQ) (k (aK m) h) (ic .add a b h k)) (ic .add a b h k)
def P9 (a b:X) (h:Hp) (k:Kx):R:=ah (kg a b) (ah (Nat.ble b.n a.n) (ah (Nat.ble a.n mQ) (aJ (Nat.sub a.n b.n) fun m=>k (aK m) h) (ic .sub a b h k)) (ic .sub a b h k)) (ic .sub a b h k)
def Qa (a b:X) (h:Hp) (k:Kx):R:=ah (kg a b) (aJ (Nat.mul a.n (Nat.shiftRight b.n 5)) fun m=>ah (Nat.ble m mQ) (k (aK m) h) (ic .mul a b h k)) (ic .mul a b h k)
def Qb (a b:X) (h:Hp) (k:Kx):R:=ah (kg a b) (ah (Nat.beq b.n 0) none (ah (Nat.ble a.n mQ) (aJ (Nat.mul 32 (Nat.div a.n b.n)) fun m=>k (aK m) h) (ic .quo a b h k))) (ic .quo a b h k)
def Qc (a b:X) (h:Hp) (k:Kx):R:=ah (kg a b) (ah (Nat.beq b.n 0) none (aJ (Nat.mod a.n b.n) fun m=>k (aK m) h)) (ic .rem a b h k)
def Cc (a b:X) (h:Hp) (k:Kx):R:=ah (kg a b) (kB (Nat.beq a.n b.n) h k) (ic .eql a b h k)
def Qd (a b:X) (h:Hp) (k:Kx):R:=ah (kg a b) (ah (Nat.beq a.n b.n) (k xF h) (k xT h)) (ic .neq a b h k)
def Qe (a b:X) (h:Hp) (k:Kx):R:=ah (kg a b) (ah (Nat.ble b.n a.n) (k xF h) (k xT h)) (ic .lss a b h k)
def Qf (a b:X) (h:Hp) (k:Kx):R:=ah (kg a b) (kB (Nat.ble a.n b.n) h k) (ic .leq a b h k)
def Qg (a b:X) (h:Hp) (k:Kx):R:=ah (kg a b) (ah (Nat.ble a.n b.n) (k xF h) (k xT h)) (ic .gtr a b h k)
def Qh (a b:X) (h:Hp) (k:Kx):R:=ah (kg a b) (kB (Nat.ble b.n a.n) h k) (ic .geq a b h k)
structure ai8 where
 f:X->X->Hp->Kx->R
def Qi (op:BinOp):ai8:=match op with
 | .add=>⟨P8⟩
 | .sub=>⟨P9⟩
 | .mul=>⟨Qa⟩
 | .quo=>⟨Qb⟩
 | .rem=>⟨Qc⟩
 | .eql=>⟨Cc⟩
 | .neq=>⟨Qd⟩
 | .lss=>⟨Qe⟩
 | .leq=>⟨Qf⟩
 | .gtr=>⟨Qg⟩
 | .geq=>⟨Qh⟩
 |op=>⟨ic op⟩
def Qj (a:X) (h:Hp) (k:Kx):R:=aJ a.n fun n=>ah (Nat.beq n 33) (k xF h) (ah (Nat.beq n 1) (k xT h) none)
def Qk (a:X) (h:Hp) (k:Kx):R:=pO a fun u=>match u with
 | .int q m=>om (.int q (q.wrap (0 - m))) fun x=>k x h
 |_=>none
def JJ (q:IntKind) (a c:X):Prop:=∃ p m,dL a=some (.int p m)/\dL c=some (.int q (q.wrap m))
def Ce (q:IntKind) (a:X) (h:Hp) (k:Kx):R:=ah (rC a) (iU (JJ q a) h k) (pO a fun u=>match u with
 | .int _ m=>om (.int q (q.wrap m)) fun x=>k x h
 |_=>none)
def JK (a:X) (h:Hp) (k:Kx):R:=opn a fun n l o=>ah (Nat.beq (Nat.land n 31) 0) (ah (Nat.ble n mQ) (k (aK n) h) none)
 (ah (Nat.beq (Nat.land n 31) 4) (aJ (Nat.mul 32 (Nat.shiftRight n 9)) fun m=>ah (Nat.ble m mQ) (k (aK m) h) (Ce .i64 a h k)) (Ce .i64 a h k))
def Cf (neg:Bool) (a b:X) (h:Hp) (k:Kx):R:=aJ a.n fun m=>aJ b.n fun n=>ah (Nat.beq (Nat.land m 31) 1) (ah (Nat.beq (Nat.land n 31) 1)
 (ah (Nat.beq (Nat.beq (Nat.shiftRight m 5) 1).toNat (Nat.beq (Nat.shiftRight n 5) 1).toNat) (kB (!neg) h k) (kB neg h k)) none) none
def Ql (neg:Bool) (a:X) (h:Hp) (k:Kx):R:=aJ a.n fun n=>ah (Nat.beq n 6) (kB (!neg) h k) (ah (Nat.beq (Nat.land n 31) 8) (kB neg h k) (ah (Nat.beq n 11) (kB neg h k) none))
def u7 (q:Nat) (x:X):Bool:=cnd (Nat.beq (Nat.land x.n 30) 12) (match q,x.o with
 |0,.int _ _=>true
 |1,.string _=>true
 |_,_=>false) (cnd (Nat.beq q 0) (cnd (Nat.beq (Nat.land x.n 31) 0) true (cnd (Nat.beq (Nat.land x.n 31) 4) true (Nat.beq (Nat.land x.n 31) 5))) false)
def Cg (ks:List Nat):List X->List X->Hp->(Bool->Hp->R)->R:= @List.rec Nat (fun _=>List X->List X->Hp->(Bool->Hp->R)->R)
 (fun l m h k=>eD l (eD m (k true h) fun _ _=>none) fun _ _=>none)
 (fun q _ ih l m h k=>eD l none fun x l=>eD m none fun y m=>ah (Nat.beq q 2) (Cf false x y h fun c h=>aJ c.n fun c=>ih l m h fun r h=>ah (Nat.beq c 33) (k r h) (ah (Nat.beq c 1) (k false h) none))
  (ah (u7 q x) (ah (u7 q y) (Cc x y h fun c h=>aJ c.n fun c=>ih l m h fun r h=>ah (Nat.beq c 33) (k r h) (ah (Nat.beq c 1) (k false h) none)) none) none)) ks
def JL (neg:Bool) (ks:List Nat) (a b:X) (h:Hp) (k:Kx):R:=opn a fun m l _=>opn b fun n r _=>ah (Nat.beq (Nat.land m 31) 2) (ah (Nat.beq (Nat.land n 31) 2)
 (Cg ks l r h fun c h=>ah c (kB (!neg) h k) (kB neg h k)) none) none
def Qm (off:Nat) (p:X) (h:Hp) (k:Kx):R:=aJ p.n fun n=>ah (Nat.beq (Nat.land n 31) 7)
 (ah (Nat.ble (Nat.add (Nat.land n 33554431) (Nat.mul 32 off)) 33554431) (aJ (Nat.add n (Nat.mul 32 off)) fun n=>k (aK n) h) none) none
def zP (ag:Bool) (off sz:Nat) (a:X) (h:Hp) (k:Kx):R:=opn a fun n l _=>ah (Nat.beq (Nat.land n 31) 2)
 (ah ag ((rz off).f l fun c=>(takeB sz).f c fun c=>k ⟨Nat.add (Nat.mul 32 sz) 2,c,oZ⟩ h) ((kR off).f l fun c=>fF c h k)) none
def xE (i:X) (len:Nat) (k:Nat->R):R:=aJ i.n fun i=>ah (Nat.beq (Nat.land i 31) 0) (aJ (Nat.shiftRight i 5) fun i=>ah (Nat.ble len i) none (k i))
 (ah (Nat.beq (Nat.land i 31) 4) (aJ (Nat.shiftRight i 9) fun i=>ah (Nat.ble len i) none (k i)) none)
def EF (b off:Nat) (h:Hp) (k:Kx):R:=ah (Nat.ble off 1048575) (aJ (Nat.add (Nat.mul 32 (Nat.add (Nat.mul 1048576 b) off)) 7) fun n=>k (aK n) h) none
def Qn (sz:Nat) (s i:X) (h:Hp) (k:Kx):R:=aJ s.n fun n=>ah (Nat.beq (Nat.land n 31) 8) (kS n fun b off len _=>xE i len fun i=>EF b (Nat.add off (Nat.mul i sz)) h k) none
def Qo (len sz:Nat) (p i:X) (h:Hp) (k:Kx):R:=zO p fun b off=>xE i len fun i=>EF b (Nat.add off (Nat.mul i sz)) h k
def Qp (ag:Bool) (len sz:Nat) (a i:X) (h:Hp) (k:Kx):R:=xE i len fun i=>aJ (Nat.mul i sz) fun off=>zP ag off sz a h k
def zQ (s c:X):Prop:=∃ a n cp,dL s=some (.slice a n cp)/\dL c=some (.int .i64 (Int.ofNat n))
def Qq (s:X) (h:Hp) (k:Kx):R:=aJ s.n fun n=>ah (Nat.beq (Nat.land n 31) 8) (aJ (Nat.mul 32 (Nat.land (Nat.shiftRight n 6) 1048575)) fun n=>k (aK n) h) (ah (Nat.beq n 6) (k (aK 0) h) (ah (Nat.beq n 11) (k (aK 0) h) (ah (rC s) (iU (zQ s) h k) none)))
def JM (i:Nat) (a:X) (h:Hp) (k:Kx):R:=opn a fun n l _=>ah (Nat.beq (Nat.land n 31) 3) ((kR i).f l fun c=>fF c h k) none
def JN (mx:Bool) (a b:X) (h:Hp) (k:Kx):R:=ah (kg a b) (ah (Nat.ble a.n b.n) (ah mx (fF b h k) (fF a h k)) (ah mx (fF a h k) (fF b h k)))
 (pO a fun u=>pO b fun v=>match u,v with
  | .int q m,.int q' n=>ah (decide (q=q')) (om (.int q (if mx then max m n else min m n)) fun x=>k x h) none
  |_,_=>none)
def JO (sz bytes:Nat) (zs:List X) (l c:X) (h:Hp) (k:Kx):R:=aJ l.n fun n=>ah (Nat.beq n c.n) (ah (Nat.beq (Nat.land n 31) 0) (aJ (Nat.shiftRight n 5) fun m=>
 ah (Nat.ble m 1048575) (ah (Nat.ble (Nat.mul m bytes) 140737488355328) (aJ (Nat.add (Nat.mul 32 sz) 1) fun e=>oq ⟨e,rA ⟨Nat.add (Nat.mul 32 sz) 2,zs,oZ⟩ m,oZ⟩ h fun b h=>gZ b 0 m 0 h k) none) none) none) none
def pR (sz:Nat) (s:X) (h:Hp) (k:List X->R):R:=aJ s.n fun n=>ah (Nat.beq n 6) (k []) (ah (Nat.beq n 11) (k []) (ah (Nat.beq (Nat.land n 31) 8)
 (kS n fun b off len _=>ah (Nat.beq len 0) (k []) (kU b h fun _ e rows=>ah (Nat.beq e sz) (ah (Nat.beq (Nat.mod off e) 0) (aJ (Nat.div off e) fun q=>(rz q).f rows fun r=>(takeB len).f r k) none) none)) none))
def lK (sz bytes:Nat) (rows:List X) (h:Hp) (k:Kx):R:=aJ (di rows) fun m=>ah (Nat.ble (Nat.mul m bytes) 140737488355328) (aJ (Nat.add (Nat.mul 32 sz) 2) fun e=>oq ⟨e,rows,oZ⟩ h fun b h=>gZ b 0 m 0 h k) none
def Qr (sz bytes:Nat) (s x:X) (h:Hp) (k:Kx):R:=pR sz x h fun news=>eD news (aJ s.n fun n=>ah (Nat.beq n 6) (fF s h k) (ah (Nat.beq (Nat.land n 31) 8) (fF s h k) (ah (Nat.beq n 11) (fF s h k) none))) fun _ _=>
 aJ s.n fun n=>ah (Nat.beq n 6) (lK sz bytes news h k) (ah (Nat.beq (Nat.land n 31) 8) (kS n fun b off len c=>
  ah (Nat.beq c 1) (pR sz s h fun olds=>u6 olds news fun rows=>lK sz bytes rows h k)
   (kU b h fun bn e rows=>ah (Nat.beq e sz) (ah (Nat.beq (Nat.mod off e) 0) (aJ (Nat.div off e) fun q=>aJ (Nat.add q len) fun at_=>
    ah (Nat.ble (Nat.add at_ (di news)) (di rows)) ((jZ at_).f rows news fun rows=>j6 b ⟨bn,rows,oZ⟩ h fun h=>gZ b off (Nat.add len (di news)) 0 h k)
     (pR sz s h fun olds=>u6 olds news fun rows=>ah (Nat.beq (Nat.land bn 31) 1) (lK sz bytes rows h k) (ah (Nat.beq off 0) (j6 b (aK 0) h fun h=>lK sz bytes rows h k) none))) none) none)) none)
def JP (sz bytes:Nat) (zs:List X) (s c:X) (h:Hp) (k:Kx):R:=ah (Nat.beq s.n 6) (aJ c.n fun n=>ah (Nat.beq (Nat.land n 31) 0) (aJ (Nat.shiftRight n 5) fun m=>ah (Nat.beq m 0) none
 (ah (Nat.ble m 1048575) (lK sz bytes (rA ⟨Nat.add (Nat.mul 32 sz) 2,zs,oZ⟩ m) h k) none)) none) none
def JQ (sz:Nat) (zs:List X) (s:X) (h:Hp) (k:Kx):R:=aJ s.n fun n=>ah (Nat.beq n 6) (k xU h) (ah (Nat.beq (Nat.land n 31) 8) (kS n fun b off len _=>ah (Nat.beq len 0) (k xU h) (kU b h fun bn e rows=>
 ah (Nat.beq e sz) (ah (Nat.beq (Nat.mod off e) 0) (aJ (Nat.div off e) fun q=>(jZ q).f rows (rA ⟨Nat.add (Nat.mul 32 sz) 2,zs,oZ⟩ len) fun rows=>j6 b ⟨bn,rows,oZ⟩ h fun h=>k xU h) none) none)) none)
def Qs (sz:Nat) (d x:X) (h:Hp) (k:Kx):R:=pR sz x h fun ys=>aJ d.n fun n=>ah (Nat.beq n 6) (k (aK 0) h) (ah (Nat.beq (Nat.land n 31) 8) (kS n fun b off len _=>
 aJ (di ys) fun m=>aJ (cnd (Nat.ble m len) m len) fun m=>ah (Nat.beq m 0) (k (aK 0) h) ((takeB m).f ys fun ys=>kU b h fun bn e rows=>ah (Nat.beq e sz) (ah (Nat.beq (Nat.mod off e) 0)
  (aJ (Nat.div off e) fun q=>(jZ q).f rows ys fun rows=>j6 b ⟨bn,rows,oZ⟩ h fun h=>aJ (Nat.mul 32 m) fun m=>k (aK m) h) none) none)) none)
def xG (x:X) (k:Nat->R):R:=aJ x.n fun i=>ah (Nat.beq (Nat.land i 31) 0) (aJ (Nat.shiftRight i 5) k) none
def Ch (sz:Nat) (s lo hi:X) (h:Hp) (k:Kx):R:=aJ s.n fun n=>xG lo fun l=>xG hi fun r=>ah (Nat.ble l r) (ah (Nat.beq n 6) (ah (Nat.beq r 0) (k (aK 6) h) none) (ah (Nat.beq (Nat.land n 31) 8)
 (kS n fun b off len c=>ah (Nat.beq c 0)
  (kU b h fun _ e rows=>ah (Nat.beq e sz) (ah (Nat.ble r l)
   (ah (Nat.ble r len) (ah (Nat.beq r 0) (gZ b off 0 0 h k) (k (aK 11) h)) none)
   (ah (Nat.ble r len) (gZ b (Nat.add off (Nat.mul l sz)) (Nat.sub r l) 0 h k)
    (ah (Nat.ble (Nat.add off (Nat.mul r sz)) (Nat.mul (di rows) sz)) (gZ b (Nat.add off (Nat.mul l sz)) (Nat.sub r l) 0 h k) none))) none)
  (ah (Nat.ble r len) (ah (Nat.ble r l) (k (aK 11) h) (ah (Nat.beq r len) (gZ b (Nat.add off (Nat.mul l sz)) (Nat.sub r l) 1 h k) none)) none)) none)) none
def EG (sz:Nat) (s lo hi mx:X) (h:Hp) (k:Kx):R:=aJ s.n fun n=>xG lo fun l=>xG hi fun r=>xG mx fun m=>ah (Nat.beq n 6) (ah (Nat.beq (Nat.add l (Nat.add r m)) 0) (k (aK 6) h) none) (ah (Nat.beq (Nat.land n 31) 8)
 (kS n fun b off len c=>ah (Nat.ble m len) (ah (Nat.beq r m) (ah (Nat.ble r l) (ah (Nat.beq l r) (gZ b off 0 1 h k) none) (gZ b (Nat.add off (Nat.mul l sz)) (Nat.sub r l) 1 h k))
  (ah (Nat.ble l r) (ah (Nat.ble r m) (k (aK 16) h) none) none)) none) none)
end
end Go.M
namespace Go.M
open Go
theorem Ci {l:List X} {k:X->X->X->X->X->X->X->X->List X->R} {r} (h:pM l k=some r):∃ a b c d e f g i t,l=a::b::c::d::e::f::g::i::t/\k a b c d e f g i t=some r:=by
 match l,h with
 |[],h=>cases h
 |[_],h=>cases h
 |[_,_],h=>cases h
 |[_,_,_],h=>cases h
 |[_,_,_,_],h=>cases h
 |[_,_,_,_,_],h=>cases h
 |[_,_,_,_,_,_],h=>cases h
 |[_,_,_,_,_,_,_],h=>cases h
 |a::b::c::d::e::f::g::i::t,h=>exact ⟨a,b,c,d,e,f,g,i,t,rfl,h⟩
theorem ai9 {l:List X} {k:X->R} {r} (h:O3.f l k=some r):∃ x,l[0]? =some x/\k x=some r:=by
 match l,h with
 |[],h=>cases h
 |x::t,h=>exact ⟨x,rfl,h⟩
theorem aja {l:List X} {k:List X->R} {r} (h:Pd.f l k=some r):0<=l.length/\k (l.drop 0)=some r:=by
 match l,h with
 |t,h=>exact ⟨by simp,h⟩
theorem ajb {l:List X} {k:List X->R} {r} (h:Pn.f l k=some r):0<=l.length/\k (l.take 0)=some r:=by
 match l,h with
 |t,h=>exact ⟨by simp,h⟩
theorem ajc {l:List X} {y:X} {k:List X->R} {r} (h:Py.f l y k=some r):0<l.length/\k (l.set 0 y)=some r:=by
 match l,h with
 |[],h=>cases h
 |x::t,h=>exact ⟨by simp,h⟩
theorem ajd {l:List X} {k:X->R} {r} (h:O4.f l k=some r):∃ x,l[1]? =some x/\k x=some r:=by
 match l,h with
 |[],h=>cases h
 |[_],h=>cases h
 |a::x::t,h=>exact ⟨x,rfl,h⟩
theorem aje {l:List X} {k:List X->R} {r} (h:Pe.f l k=some r):1<=l.length/\k (l.drop 1)=some r:=by
 match l,h with
 |[],h=>cases h
 |a::t,h=>exact ⟨by simp,h⟩
theorem ajf {l:List X} {k:List X->R} {r} (h:Po.f l k=some r):1<=l.length/\k (l.take 1)=some r:=by
 match l,h with
 |[],h=>cases h
 |a::t,h=>exact ⟨by simp,h⟩
theorem ajg {l:List X} {y:X} {k:List X->R} {r} (h:Pz.f l y k=some r):1<l.length/\k (l.set 1 y)=some r:=by
 match l,h with
 |[],h=>cases h
 |[_],h=>cases h
 |a::x::t,h=>exact ⟨by simp,h⟩
theorem ajh {l:List X} {k:X->R} {r} (h:O5.f l k=some r):∃ x,l[2]? =some x/\k x=some r:=by
 match l,h with
 |[],h=>cases h
 |[_],h=>cases h
 |[_,_],h=>cases h
 |a::b::x::t,h=>exact ⟨x,rfl,h⟩
theorem aji {l:List X} {k:List X->R} {r} (h:Pf.f l k=some r):2<=l.length/\k (l.drop 2)=some r:=by
 match l,h with
 |[],h=>cases h
 |[_],h=>cases h
 |a::b::t,h=>exact ⟨by simp,h⟩
theorem ajj {l:List X} {k:List X->R} {r} (h:Pp.f l k=some r):2<=l.length/\k (l.take 2)=some r:=by
 match l,h with
 |[],h=>cases h
 |[_],h=>cases h
 |a::b::t,h=>exact ⟨by simp,h⟩
theorem ajk {l:List X} {y:X} {k:List X->R} {r} (h:PD.f l y k=some r):2<l.length/\k (l.set 2 y)=some r:=by
 match l,h with
 |[],h=>cases h
 |[_],h=>cases h
 |[_,_],h=>cases h
 |a::b::x::t,h=>exact ⟨by simp,h⟩
theorem ajl {l:List X} {k:X->R} {r} (h:O6.f l k=some r):∃ x,l[3]? =some x/\k x=some r:=by
 match l,h with
 |[],h=>cases h
 |[_],h=>cases h
 |[_,_],h=>cases h
 |[_,_,_],h=>cases h
 |a::b::c::x::t,h=>exact ⟨x,rfl,h⟩
theorem ajm {l:List X} {k:List X->R} {r} (h:Pg.f l k=some r):3<=l.length/\k (l.drop 3)=some r:=by
 match l,h with
 |[],h=>cases h
 |[_],h=>cases h
 |[_,_],h=>cases h
 |a::b::c::t,h=>exact ⟨by simp,h⟩
theorem ajn {l:List X} {k:List X->R} {r} (h:Pq.f l k=some r):3<=l.length/\k (l.take 3)=some r:=by
 match l,h with
 |[],h=>cases h
 |[_],h=>cases h
 |[_,_],h=>cases h
 |a::b::c::t,h=>exact ⟨by simp,h⟩
theorem ajo {l:List X} {y:X} {k:List X->R} {r} (h:PE.f l y k=some r):3<l.length/\k (l.set 3 y)=some r:=by
 match l,h with
 |[],h=>cases h
 |[_],h=>cases h
 |[_,_],h=>cases h
 |[_,_,_],h=>cases h
 |a::b::c::x::t,h=>exact ⟨by simp,h⟩
theorem ajp {l:List X} {k:X->R} {r} (h:O7.f l k=some r):∃ x,l[4]? =some x/\k x=some r:=by
 match l,h with
 |[],h=>cases h
 |[_],h=>cases h
 |[_,_],h=>cases h
 |[_,_,_],h=>cases h
 |[_,_,_,_],h=>cases h
 |a::b::c::d::x::t,h=>exact ⟨x,rfl,h⟩
theorem ajq {l:List X} {k:List X->R} {r} (h:Ph.f l k=some r):4<=l.length/\k (l.drop 4)=some r:=by
 match l,h with
 |[],h=>cases h
 |[_],h=>cases h
 |[_,_],h=>cases h
 |[_,_,_],h=>cases h
 |a::b::c::d::t,h=>exact ⟨by simp,h⟩
theorem ajr {l:List X} {k:List X->R} {r} (h:Ps.f l k=some r):4<=l.length/\k (l.take 4)=some r:=by
 match l,h with
 |[],h=>cases h
 |[_],h=>cases h
 |[_,_],h=>cases h
 |[_,_,_],h=>cases h
 |a::b::c::d::t,h=>exact ⟨by simp,h⟩
theorem ajs {l:List X} {y:X} {k:List X->R} {r} (h:PG.f l y k=some r):4<l.length/\k (l.set 4 y)=some r:=by
 match l,h with
 |[],h=>cases h
 |[_],h=>cases h
 |[_,_],h=>cases h
 |[_,_,_],h=>cases h
 |[_,_,_,_],h=>cases h
 |a::b::c::d::x::t,h=>exact ⟨by simp,h⟩
theorem ajt {l:List X} {k:X->R} {r} (h:O8.f l k=some r):∃ x,l[5]? =some x/\k x=some r:=by
 match l,h with
 |[],h=>cases h
 |[_],h=>cases h
 |[_,_],h=>cases h
 |[_,_,_],h=>cases h
 |[_,_,_,_],h=>cases h
 |[_,_,_,_,_],h=>cases h
 |a::b::c::d::e::x::t,h=>exact ⟨x,rfl,h⟩
theorem aju {l:List X} {k:List X->R} {r} (h:Pj.f l k=some r):5<=l.length/\k (l.drop 5)=some r:=by
 match l,h with
 |[],h=>cases h
 |[_],h=>cases h
 |[_,_],h=>cases h
 |[_,_,_],h=>cases h
 |[_,_,_,_],h=>cases h
 |a::b::c::d::e::t,h=>exact ⟨by simp,h⟩
theorem ajv {l:List X} {k:List X->R} {r} (h:Pv.f l k=some r):5<=l.length/\k (l.take 5)=some r:=by
 match l,h with
 |[],h=>cases h
 |[_],h=>cases h
 |[_,_],h=>cases h
 |[_,_,_],h=>cases h
 |[_,_,_,_],h=>cases h
 |a::b::c::d::e::t,h=>exact ⟨by simp,h⟩
theorem ajw {l:List X} {y:X} {k:List X->R} {r} (h:PI.f l y k=some r):5<l.length/\k (l.set 5 y)=some r:=by
 match l,h with
 |[],h=>cases h
 |[_],h=>cases h
 |[_,_],h=>cases h
 |[_,_,_],h=>cases h
 |[_,_,_,_],h=>cases h
 |[_,_,_,_,_],h=>cases h
 |a::b::c::d::e::x::t,h=>exact ⟨by simp,h⟩
theorem ajx {l:List X} {k:X->R} {r} (h:O9.f l k=some r):∃ x,l[6]? =some x/\k x=some r:=by
 match l,h with
 |[],h=>cases h
 |[_],h=>cases h
 |[_,_],h=>cases h
 |[_,_,_],h=>cases h
 |[_,_,_,_],h=>cases h
 |[_,_,_,_,_],h=>cases h
 |[_,_,_,_,_,_],h=>cases h
 |a::b::c::d::e::f::x::t,h=>exact ⟨x,rfl,h⟩
theorem ajy {l:List X} {k:List X->R} {r} (h:Pk.f l k=some r):6<=l.length/\k (l.drop 6)=some r:=by
 match l,h with
 |[],h=>cases h
 |[_],h=>cases h
 |[_,_],h=>cases h
 |[_,_,_],h=>cases h
 |[_,_,_,_],h=>cases h
 |[_,_,_,_,_],h=>cases h
 |a::b::c::d::e::f::t,h=>exact ⟨by simp,h⟩
theorem ajz {l:List X} {k:List X->R} {r} (h:Pw.f l k=some r):6<=l.length/\k (l.take 6)=some r:=by
 match l,h with
 |[],h=>cases h
 |[_],h=>cases h
 |[_,_],h=>cases h
 |[_,_,_],h=>cases h
 |[_,_,_,_],h=>cases h
 |[_,_,_,_,_],h=>cases h
 |a::b::c::d::e::f::t,h=>exact ⟨by simp,h⟩
theorem ajA {l:List X} {y:X} {k:List X->R} {r} (h:PK.f l y k=some r):6<l.length/\k (l.set 6 y)=some r:=by
 match l,h with
 |[],h=>cases h
 |[_],h=>cases h
 |[_,_],h=>cases h
 |[_,_,_],h=>cases h
 |[_,_,_,_],h=>cases h
 |[_,_,_,_,_],h=>cases h
 |[_,_,_,_,_,_],h=>cases h
 |a::b::c::d::e::f::x::t,h=>exact ⟨by simp,h⟩
theorem ajB {l:List X} {k:X->R} {r} (h:Pb.f l k=some r):∃ x,l[7]? =some x/\k x=some r:=by
 match l,h with
 |[],h=>cases h
 |[_],h=>cases h
 |[_,_],h=>cases h
 |[_,_,_],h=>cases h
 |[_,_,_,_],h=>cases h
 |[_,_,_,_,_],h=>cases h
 |[_,_,_,_,_,_],h=>cases h
 |[_,_,_,_,_,_,_],h=>cases h
 |a::b::c::d::e::f::g::x::t,h=>exact ⟨x,rfl,h⟩
theorem ajC {l:List X} {k:List X->R} {r} (h:Pm.f l k=some r):7<=l.length/\k (l.drop 7)=some r:=by
 match l,h with
 |[],h=>cases h
 |[_],h=>cases h
 |[_,_],h=>cases h
 |[_,_,_],h=>cases h
 |[_,_,_,_],h=>cases h
 |[_,_,_,_,_],h=>cases h
 |[_,_,_,_,_,_],h=>cases h
 |a::b::c::d::e::f::g::t,h=>exact ⟨by simp,h⟩
theorem ajD {l:List X} {k:List X->R} {r} (h:Px.f l k=some r):7<=l.length/\k (l.take 7)=some r:=by
 match l,h with
 |[],h=>cases h
 |[_],h=>cases h
 |[_,_],h=>cases h
 |[_,_,_],h=>cases h
 |[_,_,_,_],h=>cases h
 |[_,_,_,_,_],h=>cases h
 |[_,_,_,_,_,_],h=>cases h
 |a::b::c::d::e::f::g::t,h=>exact ⟨by simp,h⟩
theorem ajE {l:List X} {y:X} {k:List X->R} {r} (h:PL.f l y k=some r):7<l.length/\k (l.set 7 y)=some r:=by
 match l,h with
 |[],h=>cases h
 |[_],h=>cases h
 |[_,_],h=>cases h
 |[_,_,_],h=>cases h
 |[_,_,_,_],h=>cases h
 |[_,_,_,_,_],h=>cases h
 |[_,_,_,_,_,_],h=>cases h
 |[_,_,_,_,_,_,_],h=>cases h
 |a::b::c::d::e::f::g::x::t,h=>exact ⟨by simp,h⟩
theorem tF:∀ {ys l:List X} {k:List X->R} {r},tu ys l k=some r->ys.length<=l.length/\k (ys++l.drop ys.length)=some r
 |[],l,k,r,h=>⟨Nat.zero_le _,h⟩
 |y::ys,[],k,r,h=>by cases h
 |y::ys,x::l,k,r,h=>by
  obtain ⟨h1,h2⟩:=tF (ys:=ys) (l:=l) (k:=fun r=>k (y::r)) h
  exact ⟨Nat.succ_le_succ h1,h2⟩
theorem ajF {l ys:List X} {k:List X->R} {r} (h:PN.f l ys k=some r):0+ys.length<=l.length/\k (l.take 0++(ys++l.drop (0+ys.length)))=some r:=by
 match l,h with
 |t,h=>
  obtain ⟨h1,h2⟩:=tF (k:=fun r=>k (r)) h
  refine ⟨by omega,?_⟩
  rw [Nat.add_comm 0]
  exact h2
theorem ajG {l ys:List X} {k:List X->R} {r} (h:PO.f l ys k=some r):1+ys.length<=l.length/\k (l.take 1++(ys++l.drop (1+ys.length)))=some r:=by
 match l,h with
 |[],h=>cases h
 |a::t,h=>
  obtain ⟨h1,h2⟩:=tF (k:=fun r=>k (a::r)) h
  refine ⟨by simp only [List.length_cons];omega,?_⟩
  rw [Nat.add_comm 1]
  exact h2
theorem ajH {l ys:List X} {k:List X->R} {r} (h:PS.f l ys k=some r):2+ys.length<=l.length/\k (l.take 2++(ys++l.drop (2+ys.length)))=some r:=by
 match l,h with
 |[],h=>cases h
 |[_],h=>cases h
 |a::b::t,h=>
  obtain ⟨h1,h2⟩:=tF (k:=fun r=>k (a::b::r)) h
  refine ⟨by simp only [List.length_cons];omega,?_⟩
  rw [Nat.add_comm 2]
  exact h2
theorem ajI {l ys:List X} {k:List X->R} {r} (h:PU.f l ys k=some r):3+ys.length<=l.length/\k (l.take 3++(ys++l.drop (3+ys.length)))=some r:=by
 match l,h with
 |[],h=>cases h
 |[_],h=>cases h
 |[_,_],h=>cases h
 |a::b::c::t,h=>
  obtain ⟨h1,h2⟩:=tF (k:=fun r=>k (a::b::c::r)) h
  refine ⟨by simp only [List.length_cons];omega,?_⟩
  rw [Nat.add_comm 3]
  exact h2
theorem ajJ {l ys:List X} {k:List X->R} {r} (h:PW.f l ys k=some r):4+ys.length<=l.length/\k (l.take 4++(ys++l.drop (4+ys.length)))=some r:=by
 match l,h with
 |[],h=>cases h
 |[_],h=>cases h
 |[_,_],h=>cases h
 |[_,_,_],h=>cases h
 |a::b::c::d::t,h=>
  obtain ⟨h1,h2⟩:=tF (k:=fun r=>k (a::b::c::d::r)) h
  refine ⟨by simp only [List.length_cons];omega,?_⟩
  rw [Nat.add_comm 4]
  exact h2
theorem ajK {l ys:List X} {k:List X->R} {r} (h:PX.f l ys k=some r):5+ys.length<=l.length/\k (l.take 5++(ys++l.drop (5+ys.length)))=some r:=by
 match l,h with
 |[],h=>cases h
 |[_],h=>cases h
 |[_,_],h=>cases h
 |[_,_,_],h=>cases h
 |[_,_,_,_],h=>cases h
 |a::b::c::d::e::t,h=>
  obtain ⟨h1,h2⟩:=tF (k:=fun r=>k (a::b::c::d::e::r)) h
  refine ⟨by simp only [List.length_cons];omega,?_⟩
  rw [Nat.add_comm 5]
  exact h2
theorem ajL {l ys:List X} {k:List X->R} {r} (h:PY.f l ys k=some r):6+ys.length<=l.length/\k (l.take 6++(ys++l.drop (6+ys.length)))=some r:=by
 match l,h with
 |[],h=>cases h
 |[_],h=>cases h
 |[_,_],h=>cases h
 |[_,_,_],h=>cases h
 |[_,_,_,_],h=>cases h
 |[_,_,_,_,_],h=>cases h
 |a::b::c::d::e::f::t,h=>
  obtain ⟨h1,h2⟩:=tF (k:=fun r=>k (a::b::c::d::e::f::r)) h
  refine ⟨by simp only [List.length_cons];omega,?_⟩
  rw [Nat.add_comm 6]
  exact h2
theorem ajM {l ys:List X} {k:List X->R} {r} (h:PZ.f l ys k=some r):7+ys.length<=l.length/\k (l.take 7++(ys++l.drop (7+ys.length)))=some r:=by
 match l,h with
 |[],h=>cases h
 |[_],h=>cases h
 |[_,_],h=>cases h
 |[_,_,_],h=>cases h
 |[_,_,_,_],h=>cases h
 |[_,_,_,_,_],h=>cases h
 |[_,_,_,_,_,_],h=>cases h
 |a::b::c::d::e::f::g::t,h=>
  obtain ⟨h1,h2⟩:=tF (k:=fun r=>k (a::b::c::d::e::f::g::r)) h
  refine ⟨by simp only [List.length_cons];omega,?_⟩
  rw [Nat.add_comm 7]
  exact h2
theorem ajN {i:Nat} {l:List X} {k:X->R} {r} (hi:i<8) (h:(JC i).f l k=some r):∃ x,l[i]? =some x/\k x=some r:=by
 match i,hi,h with
 |0,_,h=>exact ai9 h
 |1,_,h=>exact ajd h
 |2,_,h=>exact ajh h
 |3,_,h=>exact ajl h
 |4,_,h=>exact ajp h
 |5,_,h=>exact ajt h
 |6,_,h=>exact ajx h
 |7,_,h=>exact ajB h
theorem ajO {i:Nat} {l:List X} {k:List X->R} {r} (hi:i<8) (h:(JD i).f l k=some r):i<=l.length/\k (l.drop i)=some r:=by
 match i,hi,h with
 |0,_,h=>exact aja h
 |1,_,h=>exact aje h
 |2,_,h=>exact aji h
 |3,_,h=>exact ajm h
 |4,_,h=>exact ajq h
 |5,_,h=>exact aju h
 |6,_,h=>exact ajy h
 |7,_,h=>exact ajC h
theorem ajP {i:Nat} {l:List X} {k:List X->R} {r} (hi:i<8) (h:(JE i).f l k=some r):i<=l.length/\k (l.take i)=some r:=by
 match i,hi,h with
 |0,_,h=>exact ajb h
 |1,_,h=>exact ajf h
 |2,_,h=>exact ajj h
 |3,_,h=>exact ajn h
 |4,_,h=>exact ajr h
 |5,_,h=>exact ajv h
 |6,_,h=>exact ajz h
 |7,_,h=>exact ajD h
theorem ajQ {i:Nat} {l:List X} {y:X} {k:List X->R} {r} (hi:i<8) (h:(JF i).f l y k=some r):i<l.length/\k (l.set i y)=some r:=by
 match i,hi,h with
 |0,_,h=>exact ajc h
 |1,_,h=>exact ajg h
 |2,_,h=>exact ajk h
 |3,_,h=>exact ajo h
 |4,_,h=>exact ajs h
 |5,_,h=>exact ajw h
 |6,_,h=>exact ajA h
 |7,_,h=>exact ajE h
theorem ajR {i:Nat} {l ys:List X} {k:List X->R} {r} (hi:i<8) (h:(JG i).f l ys k=some r):i+ys.length<=l.length/\k (l.take i++(ys++l.drop (i+ys.length)))=some r:=by
 match i,hi,h with
 |0,_,h=>exact ajF h
 |1,_,h=>exact ajG h
 |2,_,h=>exact ajH h
 |3,_,h=>exact ajI h
 |4,_,h=>exact ajJ h
 |5,_,h=>exact ajK h
 |6,_,h=>exact ajL h
 |7,_,h=>exact ajM h
theorem Qt {j:Nat} (hj:j<8):∀ {q:Nat} {l:List X} {k:X->R} {r},(@Nat.rec (fun _=>mM) (JC j) (fun _ ih=>⟨fun l k=>pM l fun _ _ _ _ _ _ _ _ t=>ih.f t k⟩) q:mM).f l k=some r->∃ x,l[8*q+j]? =some x/\k x=some r
 |0,l,k,r,h=>by simpa using ajN hj h
 |q+1,l,k,r,h=>by
  obtain ⟨a,b,c,d,e,f,g,i,t,rfl,h1⟩:=Ci h
  obtain ⟨x,h2,h3⟩:=Qt hj (q:=q) h1
  exact ⟨x,by rw [show 8*(q+1)+j=8*q+j+8 by omega];exact h2,h3⟩
theorem tH {i:Nat} {l:List X} {k:X->R} {r} (h:(kR i).f l k=some r):∃ x,l[i]? =some x/\k x=some r:=by
 have:=Qt (Nat.mod_lt i (by decide)) h
 rwa [show 8*(Nat.div i 8)+i % 8=i from Nat.div_add_mod i 8] at this
theorem Qu {j:Nat} (hj:j<8):∀ {q:Nat} {l:List X} {k:List X->R} {r},(@Nat.rec (fun _=>fE) (JD j) (fun _ ih=>⟨fun l k=>pM l fun _ _ _ _ _ _ _ _ t=>ih.f t k⟩) q:fE).f l k=some r->8*q+j<=l.length/\k (l.drop (8*q+j))=some r
 |0,l,k,r,h=>by simpa using ajO hj h
 |q+1,l,k,r,h=>by
  obtain ⟨a,b,c,d,e,f,g,i,t,rfl,h1⟩:=Ci h
  obtain ⟨h2,h3⟩:=Qu hj (q:=q) h1
  rw [show 8*(q+1)+j=8*q+j+8 by omega]
  exact ⟨by simp only [List.length_cons];omega,h3⟩
theorem EH {i:Nat} {l:List X} {k:List X->R} {r} (h:(rz i).f l k=some r):i<=l.length/\k (l.drop i)=some r:=by
 have:=Qu (Nat.mod_lt i (by decide)) h
 rwa [show 8*(Nat.div i 8)+i % 8=i from Nat.div_add_mod i 8] at this
theorem Qv {j:Nat} (hj:j<8):∀ {q:Nat} {l:List X} {k:List X->R} {r},(@Nat.rec (fun _=>fE) (JE j) (fun _ ih=>⟨fun l k=>pM l fun a b c d e f g h t=>ih.f t fun r=>k (a::b::c::d::e::f::g::h::r)⟩) q:fE).f l k=some r->8*q+j<=l.length/\k (l.take (8*q+j))=some r
 |0,l,k,r,h=>by simpa using ajP hj h
 |q+1,l,k,r,h=>by
  obtain ⟨a,b,c,d,e,f,g,i,t,rfl,h1⟩:=Ci h
  obtain ⟨h2,h3⟩:=Qv hj (q:=q) h1
  rw [show 8*(q+1)+j=8*q+j+8 by omega]
  exact ⟨by simp only [List.length_cons];omega,h3⟩
theorem Cj {i:Nat} {l:List X} {k:List X->R} {r} (h:(takeB i).f l k=some r):i<=l.length/\k (l.take i)=some r:=by
 have:=Qv (Nat.mod_lt i (by decide)) h
 rwa [show 8*(Nat.div i 8)+i % 8=i from Nat.div_add_mod i 8] at this
theorem Qw {j:Nat} (hj:j<8):∀ {q:Nat} {l:List X} {y:X} {k:List X->R} {r},(@Nat.rec (fun _=>mO) (JF j) (fun _ ih=>⟨fun l y k=>pM l fun a b c d e f g h t=>ih.f t y fun r=>k (a::b::c::d::e::f::g::h::r)⟩) q:mO).f l y k=some r->8*q+j<l.length/\k (l.set (8*q+j) y)=some r
 |0,l,y,k,r,h=>by simpa using ajQ hj h
 |q+1,l,y,k,r,h=>by
  obtain ⟨a,b,c,d,e,f,g,i,t,rfl,h1⟩:=Ci h
  obtain ⟨h2,h3⟩:=Qw hj (q:=q) h1
  rw [show 8*(q+1)+j=8*q+j+8 by omega]
  exact ⟨by simp only [List.length_cons];omega,h3⟩
theorem EI {i:Nat} {l:List X} {y:X} {k:List X->R} {r} (h:(tq i).f l y k=some r):i<l.length/\k (l.set i y)=some r:=by
 have:=Qw (Nat.mod_lt i (by decide)) h
 rwa [show 8*(Nat.div i 8)+i % 8=i from Nat.div_add_mod i 8] at this
theorem Qx {j:Nat} (hj:j<8):∀ {q:Nat} {l ys:List X} {k:List X->R} {r},(@Nat.rec (fun _=>mP) (JG j) (fun _ ih=>⟨fun l ys k=>pM l fun a b c d e f g h t=>ih.f t ys fun r=>k (a::b::c::d::e::f::g::h::r)⟩) q:mP).f l ys k=some r->8*q+j+ys.length<=l.length/\k (l.take (8*q+j)++(ys++l.drop (8*q+j+ys.length)))=some r
 |0,l,ys,k,r,h=>by
  rw [Nat.mul_zero,Nat.zero_add]
  exact ajR hj h
 |q+1,l,ys,k,r,h=>by
  obtain ⟨a,b,c,d,e,f,g,i,t,rfl,h1⟩:=Ci h
  obtain ⟨h2,h3⟩:=Qx hj (q:=q) h1
  refine ⟨by simp only [List.length_cons];omega,?_⟩
  rw [show 8*(q+1)+j=8*q+j+8 by omega,show 8*q+j+8+ys.length=8*q+j+ys.length+8 by omega]
  exact h3
theorem xH {i:Nat} {l ys:List X} {k:List X->R} {r} (h:(jZ i).f l ys k=some r):i+ys.length<=l.length/\k (l.take i++(ys++l.drop (i+ys.length)))=some r:=by
 have:=Qx (Nat.mod_lt i (by decide)) h
 rwa [show 8*(Nat.div i 8)+i % 8=i from Nat.div_add_mod i 8] at this
theorem Ck:∀ (xs ys:List X) (k:List X->R),u6 xs ys k=k (xs++ys)
 |[],ys,k=>rfl
 |x::xs,ys,k=>Ck xs ys fun r=>k (x::r)
theorem lM:∀ (l:List X),di l=l.length
 |[]=>rfl
 |x::l=>congrArg Nat.succ (lM l)
theorem Cn (x:X):∀ (n:Nat),rA x n=List.replicate n x
 |0=>rfl
 |n+1=>congrArg (x::·) (Cn x n)
theorem JR {l ys:List X} {i:Nat} (h:i+ys.length<=l.length) (j:Nat):
  (l.take i++(ys++l.drop (i+ys.length)))[j]? =if j<i then l[j]? else if j<i+ys.length then ys[j - i]? else l[j]? :=by
 rw [List.getElem?_append,List.length_take,Nat.min_eq_left (by omega)]
 by_cases h1:j<i
 ·simp [h1]
 ·rw [if_neg h1,if_neg h1,List.getElem?_append]
  by_cases h2:j<i+ys.length
  ·rw [if_pos (by omega),if_pos h2]
  ·rw [if_neg (by omega),if_neg h2,List.getElem?_drop]
   congr 1;omega
theorem zR {l ys:List X} {i:Nat} (h:i+ys.length<=l.length):(l.take i++(ys++l.drop (i+ys.length))).length=l.length:=by
 simp;omega
theorem jD (n:Nat):Nat.land n 31=n % 32:=Nat.and_two_pow_sub_one_eq_mod n 5
theorem Co (n:Nat):Nat.land n 1048575=n % 1048576:=Nat.and_two_pow_sub_one_eq_mod n 20
theorem ajS (n:Nat):Nat.land n 33554431=n % 33554432:=Nat.and_two_pow_sub_one_eq_mod n 25
theorem ajT (n:Nat):Nat.land n 1=n % 2:=Nat.and_two_pow_sub_one_eq_mod n 1
theorem Qy (n:Nat):Nat.land n 15=n % 16:=Nat.and_two_pow_sub_one_eq_mod n 4
theorem shr (n i:Nat):Nat.shiftRight n i=n / 2 ^ i:=Nat.shiftRight_eq_div_pow n i
theorem aC {a b:Nat} (h:Nat.beq a b=true):a=b:=Nat.eq_of_beq_eq_true h
theorem gq {a b:Nat} (h:Nat.beq a b=false):a≠b:=fun e=>by subst e;rw [Nat.beq_refl] at h;cases h
theorem bI {a b:Nat} (h:Nat.ble a b=true):a<=b:=Nat.le_of_ble_eq_true h
theorem tJ {a b:Nat} (h:Nat.ble a b=false):b<a:=by
 rcases Nat.lt_or_ge b a with h1|h1
 ·exact h1
 ·rw [Nat.ble_eq_true_of_le h1] at h;cases h
theorem bJ {n t:Nat} (h:Nat.beq (Nat.land n 31) t=true):n % 32=t:=by rw [<-jD];exact aC h
theorem JS {a b:X} (h:kg a b=true):a.n % 32=0/\b.n % 32=0:=by
 have h1:Nat.land (Nat.lor a.n b.n) 31=0:=aC h
 have h2:Nat.land (Nat.lor a.n b.n) 31=(a.n|||b.n) % 2 ^ 5:=Nat.and_two_pow_sub_one_eq_mod (a.n|||b.n) 5
 rw [h2,Nat.or_mod_two_pow,Nat.or_eq_zero_iff] at h1
 exact h1
theorem ajU {n:Nat} (h:Nat.beq (Nat.land (Nat.succ n) 30) 2=true):n % 32=1\/n % 32=2:=by
 have h1:Nat.land (Nat.succ n) 30=2:=aC h
 have h2:Nat.land (Nat.succ n) 30 % 32=Nat.land (Nat.succ n % 32) 30:=by
  show ((n+1)&&&30) % 2 ^ 5=((n+1) % 2 ^ 5)&&&30
  rw [Nat.and_mod_two_pow]
 rw [h1] at h2
 have h3:(n+1) % 32<32:=Nat.mod_lt _ (by decide)
 have key:∀ m,m<32->2 % 32=Nat.land m 30->m=2\/m=3:=by decide
 rcases key _ h3 h2 with e|e<;>omega
end Go.M
namespace Go.M
open Go
noncomputable section
variable [aY]
def ji (h:Hp) (blk:X):Hp:=⟨h.n+1,h.fl,eT.pt h.t h.n blk,h.fa,h.q⟩
def iF (h:Hp) (b:Nat) (blk:X):Hp:=⟨h.n,h.fl,eT.pt h.t b blk,h.fa,h.q⟩
theorem tK {t:T8} {b b':Nat} {blk:X} (hb:b<65536) (hb':b'<65536):(eT.get b').g (eT.pt t b blk)=if b'=b then blk else (eT.get b').g t:=by
 by_cases e:b'=b
 ·subst e;rw [if_pos rfl];exact BX.self _ _ _ _ (JA _ _)
 ·rw [if_neg e];exact BX.other _ _ _ _ fun hs=>e (Jz hs hb hb').symm
theorem Cq {blk:X} {h:Hp} {k:Nat->Hp->R} {r} (e:oq blk h k=some r):h.n<65536/\k h.n (ji h blk)=some r:=by
 cases h with
 |mk n fl t fa q=>
  obtain ⟨h1,h2⟩:=aI (show ah (Nat.ble n 65535) ((eT.put n).f t blk fun t'=>aJ (Nat.succ n) fun n'=>k n ⟨n',fl,t',fa,q⟩) none=some r from e)
  rw [BX.put_eq] at h2
  exact ⟨Nat.lt_succ_of_le (bI h1),h2⟩
theorem xI {b:Nat} {blk:X} {h:Hp} {k:Hp->R} {r} (e:j6 b blk h k=some r):h.fl<=b/\b<65536/\k (iF h b blk)=some r:=by
 cases h with
 |mk n fl t fa q=>
  obtain ⟨h1,h2⟩:=aI (show ah (Nat.ble fl b) (ah (Nat.ble b 65535) ((eT.put b).f t blk fun t'=>k ⟨n,fl,t',fa,q⟩) none) none=some r from e)
  obtain ⟨h3,h4⟩:=aI h2
  rw [BX.put_eq] at h4
  exact ⟨bI h1,Nat.lt_succ_of_le (bI h3),h4⟩
theorem aM.al (fl:Nat) (h:Hp) (blk:X) (hn:h.n<65536):aM fl h (ji h blk):=
 ⟨Nat.le_succ _,rfl,fun b _ hb hb'=>by
  show (eT.get b).g (eT.pt h.t h.n blk)=_
  rw [tK hn hb',if_neg (Nat.ne_of_lt hb)],fun _ h=>h⟩
theorem aM.put {fl:Nat} {h:Hp} {b:Nat} {blk:X} (hf:fl<=b) (hb:b<65536):aM fl h (iF h b blk):=
 ⟨Nat.le_refl _,rfl,fun b' h1 _ h3=>by
  show (eT.get b').g (eT.pt h.t b blk)=_
  rw [tK hb h3,if_neg (by omega)],fun _ h=>h⟩
def bL (V:Vw) (b g s e:Nat):Vw:=⟨fun k=>V.S k\/k=b,fun k=>if k=b then g else V.ρ k,fun k=>if k=b then s else V.σ k,fun k=>if k=b then e else V.ε k⟩
theorem vg {V:Vw} {b g s e:Nat} (hb:¬ V.S b):Ext V (bL V b g s e):=by
 have hn:∀ k,V.S k->k≠b:=fun k hk e=>hb (e▸hk)
 exact ⟨fun k hk=> .inl hk,fun k hk=>if_neg (hn k hk),fun k hk=>if_neg (hn k hk),fun k hk=>if_neg (hn k hk)⟩
theorem gF {V:Vw} {b g s e:Nat}:(bL V b g s e).ρ b=g:=if_pos rfl
theorem rD {V:Vw} {b g s e:Nat}:(bL V b g s e).σ b=s:=if_pos rfl
theorem rE {V:Vw} {b g s e:Nat}:(bL V b g s e).ε b=e:=if_pos rfl
section
variable {w0:World} {V:Vw} {h:Hp} {w w':World}
theorem MR.xJ (hm:MR w0 V h w):¬ V.S h.n:=fun hs=>absurd (hm.nb _ hs).1 (Nat.lt_irrefl _)
theorem MR.alloc (hm:MR w0 V h w) (hn:h.n<65536) {blk:X} {g s e:Nat} (hg:w.heap.size<=g) (hg':g<w'.heap.size) (hw:∀ k,k<w.heap.size->w'.heap[k]? =w.heap[k]?)
  (hos:w'.os=w.os) (htp:w'.tape=w.tape) (hou:w'.output=w.output) (hb:bH (bL V h.n g s e) w' h.n blk) (fl:Nat):
  MR w0 (bL V h.n g s e) (ji h blk) w'/\Stp fl V h w (bL V h.n g s e) w':=by
 have hE:Ext V (bL V h.n g s e):=vg hm.xJ
 have hle:w.heap.size<=w'.heap.size:=by omega
 have get:∀ b,b<65536->gH (ji h blk) b=if b=h.n then blk else gH h b:=fun b hb=>tK hn hb
 have old:∀ b,V.S b->gH (ji h blk) b=gH h b:=fun b hb=>by rw [get b (hm.nb b hb).2,if_neg (Nat.ne_of_lt (hm.nb b hb).1)]
 have new:gH (ji h blk) h.n=blk:=by rw [get _ hn,if_pos rfl]
 refine ⟨⟨fun b hb=> ?_,fun b hb=> ?_,fun b b' hb hb' hl hl' hρ=> ?_,fun b hb=> ?_,fun k hk=> ?_,Nat.le_trans hm.sz hle,hos.trans hm.os,htp.trans hm.tape,hou.trans hm.output,hm.ar⟩,hE,fun b hb=> ?_,fun k hk _=>hw k hk,hle⟩
 ·rcases hb with hb|rfl
  ·exact ⟨Nat.lt_succ_of_lt (hm.nb b hb).1,(hm.nb b hb).2⟩
  ·exact ⟨Nat.lt_succ_self _,hn⟩
 ·rcases hb with hb|rfl
  ·rw [old b hb]
   exact (hm.bl b hb).mono hE hb (hw _ (hm.nw b hb).2)
  ·rw [new];exact hb
 ·rcases hb with hb|rfl<;>rcases hb' with hb'|rfl
  ·rw [old b hb] at hl
   rw [old b' hb'] at hl'
   rw [hE.ρ b hb,hE.ρ b' hb'] at hρ
   exact hm.inj b b' hb hb' hl hl' hρ
  ·rw [hE.ρ b hb,gF] at hρ
   have:=(hm.nw b hb).2
   omega
  ·rw [hE.ρ b' hb',gF] at hρ
   have:=(hm.nw b' hb').2
   omega
  ·rfl
 ·rcases hb with hb|rfl
  ·rw [hE.ρ b hb]
   exact ⟨(hm.nw b hb).1,Nat.lt_of_lt_of_le (hm.nw b hb).2 hle⟩
  ·rw [gF];exact ⟨Nat.le_trans hm.sz hg,hg'⟩
 ·rw [hw k (Nat.lt_of_lt_of_le hk hm.sz)];exact hm.old k hk
 ·rcases hb with hb|rfl
  ·exact .inl hb
  ·exact .inr ⟨Nat.le_refl _,.inl (by rw [gF];exact hg)⟩
theorem MR.write (hm:MR w0 V h w) {b:Nat} {blk:X} (hb:V.S b) {fl:Nat} (hf:fl<=b) (hw:∀ k,k≠V.ρ b->w'.heap[k]? =w.heap[k]?) (hsz:w'.heap.size=w.heap.size)
  (hos:w'.os=w.os) (htp:w'.tape=w.tape) (hou:w'.output=w.output) (hl:live (gH h b)) (hB:bH V w' b blk):MR w0 V (iF h b blk) w'/\Stp fl V h w V w':=by
 have hb':=(hm.nb b hb).2
 have get:∀ k,k<65536->gH (iF h b blk) k=if k=b then blk else gH h k:=fun k hk=>tK hb' hk
 have old:∀ k,V.S k->k≠b->gH (iF h b blk) k=gH h k:=fun k hk hne=>by rw [get k (hm.nb k hk).2,if_neg hne]
 have new:gH (iF h b blk) b=blk:=by rw [get _ hb',if_pos rfl]
 have lv:∀ k,V.S k->live (gH (iF h b blk) k)->live (gH h k):=fun k hk hlk=>by
  by_cases e:k=b
  ·subst e;exact hl
  ·rw [old k hk e] at hlk;exact hlk
 refine ⟨⟨hm.nb,fun k hk=> ?_,fun k k' hk hk' hlk ajV hρ=>hm.inj k k' hk hk' (lv k hk hlk) (lv k' hk' ajV) hρ,fun k hk=>by rw [hsz];exact hm.nw k hk,fun g hg=> ?_,by rw [hsz];exact hm.sz,hos.trans hm.os,htp.trans hm.tape,hou.trans hm.output,hm.ar⟩,
  .refl V,fun k hk=> .inl hk,fun g hg hk=>hw g fun e=>hk b hb hf e.symm,by rw [hsz];exact Nat.le_refl _⟩
 ·by_cases e:k=b
  ·subst e;rw [new];exact hB
  ·rw [old k hk e]
   by_cases hlk:live (gH h k)
   ·exact (hm.bl k hk).mono (.refl V) hk (hw _ fun hρ=>e (hm.inj k b hk hb hlk hl hρ))
   ·unfold bH
    unfold live at hlk
    split
    ·exact absurd (.inl (by assumption)) hlk
    ·exact absurd (.inr (.inl (by assumption))) hlk
    ·exact absurd (.inr (.inr (by assumption))) hlk
    ·trivial
 ·rw [hw g fun e=> ?_]
  ·exact hm.old g hg
  ·have:=(hm.nw b hb).1;omega
theorem MR.kill (hm:MR w0 V h w) {b:Nat} (hb:V.S b) {fl:Nat} (hf:fl<=b) (hl:live (gH h b)):MR w0 V (iF h b (aK 0)) w/\Stp fl V h w V w:=
 hm.write hb hf (fun _ _=>rfl) rfl rfl rfl rfl hl (by unfold bH;simp)
theorem MR.rename (hm:MR w0 V h w) (hn:h.n<65536) {blk:X} {b s e:Nat} (hb:V.S b) {fl:Nat} (hf:fl<=b) (hd:¬ live (gH h b)) (hno:∀ k,V.S k->live (gH h k)->V.ρ k≠V.ρ b)
  (hw:∀ k,k≠V.ρ b->w'.heap[k]? =w.heap[k]?) (hsz:w'.heap.size=w.heap.size) (hos:w'.os=w.os) (htp:w'.tape=w.tape) (hou:w'.output=w.output)
  (hB:bH (bL V h.n (V.ρ b) s e) w' h.n blk):MR w0 (bL V h.n (V.ρ b) s e) (ji h blk) w'/\Stp fl V h w (bL V h.n (V.ρ b) s e) w':=by
 have hE:Ext V (bL V h.n (V.ρ b) s e):=vg hm.xJ
 have get:∀ k,k<65536->gH (ji h blk) k=if k=h.n then blk else gH h k:=fun k hk=>tK hn hk
 have old:∀ k,V.S k->gH (ji h blk) k=gH h k:=fun k hk=>by rw [get k (hm.nb k hk).2,if_neg (Nat.ne_of_lt (hm.nb k hk).1)]
 have new:gH (ji h blk) h.n=blk:=by rw [get _ hn,if_pos rfl]
 refine ⟨⟨fun k hk=> ?_,fun k hk=> ?_,fun k k' hk hk' hl hl' hρ=> ?_,fun k hk=> ?_,fun g hg=> ?_,by rw [hsz];exact hm.sz,hos.trans hm.os,htp.trans hm.tape,hou.trans hm.output,hm.ar⟩,hE,fun k hk=> ?_,fun g hg hk=>hw g fun e=>hk b hb hf e.symm,by rw [hsz];exact Nat.le_refl _⟩
 ·rcases hk with hk|rfl
  ·exact ⟨Nat.lt_succ_of_lt (hm.nb k hk).1,(hm.nb k hk).2⟩
  ·exact ⟨Nat.lt_succ_self _,hn⟩
 ·rcases hk with hk|rfl
  ·rw [old k hk]
   by_cases hlk:live (gH h k)
   ·exact (hm.bl k hk).mono hE hk (hw _ (hno k hk hlk))
   ·unfold bH
    unfold live at hlk
    split
    ·exact absurd (.inl (by assumption)) hlk
    ·exact absurd (.inr (.inl (by assumption))) hlk
    ·exact absurd (.inr (.inr (by assumption))) hlk
    ·trivial
  ·rw [new];exact hB
 ·rcases hk with hk|rfl<;>rcases hk' with hk'|rfl
  ·rw [old k hk] at hl
   rw [old k' hk'] at hl'
   rw [hE.ρ k hk,hE.ρ k' hk'] at hρ
   exact hm.inj k k' hk hk' hl hl' hρ
  ·rw [hE.ρ k hk,gF] at hρ
   rw [old k hk] at hl
   exact absurd hρ (hno k hk hl)
  ·rw [hE.ρ k' hk',gF] at hρ
   rw [old k' hk'] at hl'
   exact absurd hρ.symm (hno k' hk' hl')
  ·rfl
 ·rcases hk with hk|rfl
  ·rw [hE.ρ k hk,hsz];exact hm.nw k hk
  ·rw [gF,hsz];exact hm.nw b hb
 ·rw [hw g fun e=> ?_]
  ·exact hm.old g hg
  ·have:=(hm.nw b hb).1;omega
 ·rcases hk with hk|rfl
  ·exact .inl hk
  ·exact .inr ⟨Nat.le_refl _,.inr ⟨b,hb,hf,gF⟩⟩
theorem pU {b:Nat} {k:Nat->Nat->List X->R} {r} (e:kU b h k=some r):∃ n rows,gH h b=⟨n,rows,(gH h b).o⟩/\(n % 32=1\/n % 32=2)/\k n (n / 32) rows=some r:=by
 have e':opn (gH h b) (fun n l _=>ah (Nat.beq (Nat.land (Nat.succ n) 30) 2) (aJ (Nat.shiftRight n 5) fun e=>k n e l) none)=some r:=e
 rw [fo] at e'
 obtain ⟨h1,h2⟩:=aI e'
 refine ⟨(gH h b).n,(gH h b).l,by cases gH h b;rfl,ajU h1,?_⟩
 rw [<-show Nat.shiftRight (gH h b).n 5=(gH h b).n / 32 from shr _ 5]
 exact h2
theorem MR.rows (hm:MR w0 V h w) {b n:Nat} {rows:List X} {o:Value} (hb:V.S b) (hg:gH h b=⟨n,rows,o⟩) (hk:n % 32=1\/n % 32=2):
  live (gH h b)/\n / 32=V.ε b/\0<V.ε b/\(n % 32=1->rows.length*V.ε b=V.σ b)/\rows.length*V.ε b<=V.σ b/\
   ∃ cells ty,w.heap[V.ρ b]? =some (.cells cells ty (0,0))/\cells.size=V.σ b/\bg V (V.ε b) rows cells:=by
 have:=hm.bl b hb
 rw [hg] at this ⊢
 unfold bH at this
 unfold live
 rcases hk with hk|hk
 ·simp only [hk] at this ⊢
  obtain ⟨cells,ty,h1,h2,h3,h4,h5,h6⟩:=this
  exact ⟨.inl trivial,h3,h4,fun _=>h5,Nat.le_of_eq h5,cells,ty,h1,h2,h6⟩
 ·simp only [hk] at this ⊢
  obtain ⟨cells,ty,h1,h2,h3,h4,h5,h6⟩:=this
  exact ⟨.inr (.inl trivial),h3,h4,fun e=>by simp at e,h5,cells,ty,h1,h2,h6⟩
end
end
end Go.M
namespace Go.M
open Go
noncomputable section
variable [aY]
structure Rel where
 R:World->Vw->Hp->World->Prop
 fG:∀ {w0:World} {V:Vw} {h:Hp} {w:World} {q:List X} {f:Prop},R w0 V h w->R w0 V ⟨h.n,h.fl,h.t,f::h.fa,q⟩ w
def RM:Rel:=⟨MR,fun hm=>⟨hm.nb,hm.bl,hm.inj,hm.nw,hm.old,hm.sz,hm.os,hm.tape,hm.output,hm.ar⟩⟩
def RC (V0:Vw) (W0:World):Rel:=⟨fun _ V _ w=>V=V0/\w=W0,id⟩
def dw (M:Rel) (P:Program) (w0:World) (fl:Nat) (V:Vw) (h:Hp) (w:World) (x:X) (h':Hp) (r:Result Next):Prop:=
 ∃ v w' V',(r= .ok (.value v) w'\/(v=undef/\r= .ok .skip w'))/\M.R w0 V' h' w'/\den V' x v/\Stp fl V h w V' w'
def ajW (M:Rel) (P:Program) (fl:Nat) (o:Oper) (ops:List (Operand×X)) (h:Hp) (c:Hp->Kx->R):Prop:=
 ∀ k r,c h k=some r->∃ x h',k x h'=some r/\aM fl h h'/\((∀ p ∈ h'.fa,p)->∀ w0 V w (ev:Operand->Value),M.R w0 V h w->(∀ q ∈ ops,den V q.2 (ev q.1))->(∀ v,ev (.const v)=v)->
  dw M P w0 fl V h w x h' ((execOp ev o).run P w))
abbrev ig:=ajW RM
def eF (P:Program) (o:Oper) (ops:List (Operand×X)) (h:Hp) (c:Hp->Kx->R):Prop:=
 ∀ k r,c h k=some r->∃ x h',k x h'=some r/\(∀ fl,aM fl h h')/\((∀ p ∈ h'.fa,p)->∀ (M:Rel) fl w0 V w (ev:Operand->Value),M.R w0 V h w->(∀ q ∈ ops,den V q.2 (ev q.1))->(∀ v,ev (.const v)=v)->
  dw M P w0 fl V h w x h' ((execOp ev o).run P w))
section
variable {P:Program} {fl:Nat} {o:Oper} {h:Hp}
theorem dw.pure {M:Rel} {w0:World} {V:Vw} {w:World} {x:X} {v:Value} (hm:M.R w0 V h w) (hv:den V x v):dw M P w0 fl V h w x h (.ok (.value v) w):=⟨v,w,V,.inl rfl,hm,hv,.refl ..⟩
theorem rF (y:X) (h:Hp) (k:Kx):fF y h k=k y h:=by cases y;rfl
theorem rG {x:X} {k:Value->R} {r} (e:pO x k=some r):∃ v,dL x=some v/\k v=some r:=by
 unfold pO at e
 cases hv:dL x with
 |none=>rw [hv] at e;cases e
 |some v=>rw [hv] at e;exact ⟨v,rfl,e⟩
theorem Qz (c:Nat):P5 c=EC c:=by
 rcases c with _|_|_|_|_|_|_|c<;>rfl
theorem jk {V:Vw} {x:X} {u v:Value} (hu:dL x=some u) (hv:den V x v):v=u:=by
 unfold dL at hu
 simp only [jD] at hu
 cases h0:Nat.beq (x.n % 32) 0 with
 |true=>rw [h0] at hu;have:=(dO (aC h0)).1 hv;simp only [shr] at hu;rw [this];exact (Option.some.inj hu)
 |false=>
  rw [h0] at hu
  cases h1:Nat.beq (x.n % 32) 1 with
  |true=>rw [h1] at hu;have:=(lI (aC h1)).1 hv;simp only [shr] at hu;rw [this];exact (Option.some.inj hu)
  |false=>
   rw [h1] at hu
   cases h4:Nat.beq (x.n % 32) 4 with
   |true=>rw [h4] at hu;have:=(oh (aC h4)).1 hv;simp only [shr,Qy,Qz] at hu;rw [this];exact (Option.some.inj hu)
   |false=>
    rw [h4] at hu
    cases h5:Nat.beq (x.n % 32) 5 with
    |true=>rw [h5] at hu;have:=(Ca (aC h5)).1 hv;simp only [shr] at hu;rw [this];exact (Option.some.inj hu)
    |false=>
     rw [h5] at hu
     cases h6:Nat.beq (Nat.land (x.n % 32) 30) 12 with
     |false=>rw [h6] at hu;cases hu
     |true=>
      rw [h6] at hu
      have key:∀ m,m<32->Nat.land m 30=12->m=12\/m=13:=by decide
      rw [((jY (key _ (Nat.mod_lt _ (by decide)) (aC h6))).1 hv).1]
      exact Option.some.inj hu
theorem xK {V:Vw} {x:X} {u:Value} (hu:dL x=some u) (h1:one u):den V x u:=by
 unfold dL at hu
 simp only [jD] at hu
 cases e0:Nat.beq (x.n % 32) 0 with
 |true=>rw [e0] at hu;rw [dO (aC e0)];simp only [shr] at hu;exact (Option.some.inj hu).symm
 |false=>
  rw [e0] at hu
  cases e1:Nat.beq (x.n % 32) 1 with
  |true=>rw [e1] at hu;rw [lI (aC e1)];simp only [shr] at hu;exact (Option.some.inj hu).symm
  |false=>
   rw [e1] at hu
   cases h4:Nat.beq (x.n % 32) 4 with
   |true=>rw [h4] at hu;rw [oh (aC h4)];simp only [shr,Qy,Qz] at hu;exact (Option.some.inj hu).symm
   |false=>
    rw [h4] at hu
    cases h5:Nat.beq (x.n % 32) 5 with
    |true=>rw [h5] at hu;rw [Ca (aC h5)];simp only [shr] at hu;exact (Option.some.inj hu).symm
    |false=>
     rw [h5] at hu
     cases h6:Nat.beq (Nat.land (x.n % 32) 30) 12 with
     |false=>rw [h6] at hu;cases hu
     |true=>
      rw [h6] at hu
      have key:∀ m,m<32->Nat.land m 30=12->m=12\/m=13:=by decide
      rw [jY (key _ (Nat.mod_lt _ (by decide)) (aC h6))]
      have:=Option.some.inj hu
      exact ⟨this.symm,this▸h1⟩
theorem ajX (q:IntKind):EC (xC q)=q:=by cases q<;>rfl
theorem ajY {V:Vw} {q:IntKind} {n:Int}:den V (encI q n) (.int q n):=by
 unfold encI
 split
 ·rename_i m;exact (dO (x:=⟨32*m,[],oZ⟩) (by simp)).2 (by simp)
 ·rename_i m;exact (Ca (x:=⟨32*(m+1)+5,[],oZ⟩) (by simp only;omega)).2 (by
   simp only
   rw [show (32*(m+1)+5) / 32=m+1 by omega]
   rfl)
 ·rename_i m hq
  have hk:xC q<16:=by cases q<;>decide
  refine (oh (x:=⟨512*m+32*xC q+4,[],oZ⟩) (by simp only;omega)).2 ?_
  simp only
  rw [show (512*m+32*xC q+4) / 512=m by omega,show (512*m+32*xC q+4) / 32 % 16=xC q by omega,ajX]
 ·exact (jY (x:=⟨12,[],_⟩) (.inl rfl)).2 ⟨rfl,rfl⟩
theorem mR {V:Vw} {v:Value} (h:one v):den V (dK v) v:=by
 unfold dK
 split
 ·exact ajY
 ·rename_i b
  cases b
  ·exact (lI (x:=xF) rfl).2 rfl
  ·exact (lI (x:=xT) rfl).2 rfl
 ·exact (jX (x:=⟨6,[],oZ⟩) rfl).2 rfl
 ·exact (jY (x:=⟨12,[],_⟩) (.inl rfl)).2 ⟨rfl,h⟩
theorem xL (v:Value) (k:X->R):om v k=k (dK v):=by
 unfold om
 rw [fo,mI]
 cases dK v;rfl
theorem Cr {V:Vw}:den V xT (.bool true):=(lI (x:=xT) rfl).2 rfl
theorem JU {V:Vw}:den V xF (.bool false):=(lI (x:=xF) rfl).2 rfl
theorem mU {V:Vw}:den V xU undef:=(ED (x:=xU) rfl).2 rfl
theorem vk {V:Vw} {x:X} {u:Value} (h:x.n=33) (hd:den V x u):u= .bool true:=by
 rw [lI (by rw [h])] at hd;rw [hd,h];rfl
theorem zS {V:Vw} {x:X} {u:Value} (h:x.n=1) (hd:den V x u):u= .bool false:=by
 rw [lI (by rw [h])] at hd;rw [hd,h];rfl
theorem rH {V:Vw} {m p:Nat} (h:m=32*p):den V (aK m) (.int .i64 (Int.ofNat p)):=by
 subst h
 exact (dO (x:=aK (32*p)) (by simp)).2 (by simp)
theorem JV {p:Nat} (h:32*p<=mQ):IntKind.i64.wrap (Int.ofNat p)=Int.ofNat p:=by
 rw [IntKind.wrap_i64];simp only [Int.ofNat_eq_natCast];unfold mQ at h;omega
theorem Cs {b:Bool} {k:Kx} {r} (e:kB b h k=some r):∃ x,k x h=some r/\∀ V,den V x (.bool b):=by
 cases b
 ·exact ⟨xF,e,fun V=>JU⟩
 ·exact ⟨xT,e,fun V=>Cr⟩
theorem ajZ {a:Operand} {y:X} (ho:o.op= .move a\/o.op= .assign a):eF P o [(a,y)] h (fF y):=fun k r e=>by
 rw [rF] at e
 refine ⟨y,h,e,fun fl=> .refl _ _,fun _ M fl w0 V w ev hm hd _=> ?_⟩
 have hv:=hd (a,y) (by simp)
 rcases ho with ho|ho<;>(simp only [execOp,ho,Sem.run_pure];exact .pure hm hv)
theorem aj0 {c a b:Operand} {z x y:X} (ho:o.op= .pick c a b):eF P o [(c,z),(a,x),(b,y)] h (P6 z x y):=fun k r e=>by
 have e':ah (Nat.beq z.n 33) (fF x h k) (ah (Nat.beq z.n 1) (fF y h k) none)=some r:=e
 rw [rF,rF] at e'
 rcases aF e' with ⟨h1,e1⟩|⟨_,e1⟩
 ·refine ⟨x,h,e1,fun fl=> .refl _ _,fun _ M fl w0 V w ev hm hd _=> ?_⟩
  have hc:=vk (aC h1) (hd (c,z) (by simp))
  simp only at hc
  simp only [execOp,ho,hc,asBool,Sem.run_bind,Sem.run_pure,Result.andThen_ok,if_true]
  exact .pure hm (hd (a,x) (by simp))
 ·obtain ⟨h2,e2⟩:=aI e1
  refine ⟨y,h,e2,fun fl=> .refl _ _,fun _ M fl w0 V w ev hm hd _=> ?_⟩
  have hc:=zS (aC h2) (hd (c,z) (by simp))
  simp only at hc
  simp only [execOp,ho,hc,asBool,Sem.run_bind,Sem.run_pure,Result.andThen_ok,Bool.false_eq_true,if_false]
  exact .pure hm (hd (b,y) (by simp))
theorem aj1 {ty:TypeId} {a:Operand} {x:X} (ho:o.op= .unOp .not ty a):eF P o [(a,x)] h (Qj x):=fun k r e=>by
 have e':ah (Nat.beq x.n 33) (k xF h) (ah (Nat.beq x.n 1) (k xT h) none)=some r:=e
 rcases aF e' with ⟨h1,e1⟩|⟨_,e1⟩
 ·refine ⟨xF,h,e1,fun fl=> .refl _ _,fun _ M fl w0 V w ev hm hd _=> ?_⟩
  have hc:=vk (aC h1) (hd (a,x) (by simp))
  simp only at hc
  simp only [execOp,ho,hc,Op.unary,Sem.run_bind,Sem.run_pure,Result.andThen_ok]
  exact .pure hm JU
 ·obtain ⟨h2,e2⟩:=aI e1
  refine ⟨xT,h,e2,fun fl=> .refl _ _,fun _ M fl w0 V w ev hm hd _=> ?_⟩
  have hc:=zS (aC h2) (hd (a,x) (by simp))
  simp only at hc
  simp only [execOp,ho,hc,Op.unary,Sem.run_bind,Sem.run_pure,Result.andThen_ok]
  exact .pure hm Cr
theorem aj2 {ty:TypeId} {a:Operand} {x:X} (ho:o.op= .unOp .neg ty a):eF P o [(a,x)] h (Qk x):=fun k r e=>by
 obtain ⟨u,hu,e1⟩:=rG e
 split at e1
 ·rename_i q m
  rw [xL] at e1
  refine ⟨_,h,e1,fun fl=> .refl _ _,fun _ M fl w0 V w ev hm hd _=> ?_⟩
  have hc:=jk hu (hd (a,x) (by simp))
  simp only at hc
  simp only [execOp,ho,hc,Op.unary,Op.intArith,Sem.run_bind,Sem.run_pure,Result.andThen_ok]
  exact .pure hm (mR rfl)
 ·cases e1
end
end
end Go.M
namespace Go.M
open Go
noncomputable section
variable [aY]
section
variable {P:Program} {fl:Nat} {o:Oper} {h:Hp}
theorem QA {op:BinOp} {x y z:Value} (h:bP op x y=some z):(Go.Eng.bP op x y=some z\/∃ p,Go.Eng.nO op x y=some (p,z)/\p)/\one z:=by
 unfold bP at h
 split at h<;>first
  |(
   split at h
   ·rename_i hh
    cases h
    first
    |exact ⟨.inl (if_pos hh),rfl⟩
    |exact ⟨.inr ⟨_,if_pos hh.1,hh.2⟩,rfl⟩
    |exact ⟨.inr ⟨_,rfl,hh⟩,rfl⟩
    |exact ⟨.inr ⟨_,rfl,Nat.le_trans hh (by decide)⟩,rfl⟩
   ·cases h)
  |(
   cases h
   refine ⟨.inl ?_,rfl⟩
   simp only [Go.Eng.bP]
   rw [ByteArray.toList_eq,ByteArray.toList_eq]
   done)
  |cases h
theorem JW {op:BinOp} {ty ty':TypeId} {a b:Operand} {u v z:Value} {ev:Operand->Value} {w:World} (hz:bP op u v=some z) (hx:ev a=u) (hy:ev b=v) (ho:o.op= .binOp op ty a b ty'):
  (execOp ev o).run P w= .ok (.value z) w:=by
 rcases (QA hz).1 with h1|⟨p,h1,hp⟩
 ·simp only [execOp,ho,hx,hy,Go.Eng.DJ (Go.Eng.Mv h1),Sem.run_bind,Sem.run_pure,Result.andThen_ok,Go.Eng.Ms h1]
 ·simp only [execOp,ho,hx,hy,Go.Eng.DJ (Go.Eng.Mw h1),Sem.run_bind,Sem.run_pure,Result.andThen_ok,Go.Eng.Mt h1 hp]
def vo (h:Hp) (q:List X) (f:Prop):Hp:=⟨h.n,h.fl,h.t,f::h.fa,q⟩
theorem tL {p:X->Prop} {k:Kx} {r} (e:iU p h k=some r):∃ x q,k x (vo h q (p x))=some r:=by
 cases h with
 |mk n f t fa q=>
  cases q with
  |nil=>cases e
  |cons x q=>
   have e':opn x (fun a l o=>k ⟨a,l,o⟩ ⟨n,f,t,p ⟨a,l,o⟩::fa,q⟩)=some r:=e
   rw [fo] at e'
   exact ⟨_,q,e'⟩
theorem aM.fG {q:List X} {f:Prop}:aM fl h (vo h q f):=⟨Nat.le_refl _,rfl,fun _ _ _ _=>rfl,fun _ hp=>List.mem_cons_of_mem _ hp⟩
theorem MR.fG {w0:World} {V:Vw} {w:World} {q:List X} {f:Prop} (hm:MR w0 V h w):MR w0 V (vo h q f) w:=⟨hm.nb,hm.bl,hm.inj,hm.nw,hm.old,hm.sz,hm.os,hm.tape,hm.output,hm.ar⟩
section bin
variable {ty ty':TypeId} {a b:Operand} {x y:X}
def mV (P:Program) (op:BinOp) (f:X->X->Hp->Kx->R):Prop:=
 ∀ {o:Oper} {h:Hp} {ty ty':TypeId} {a b:Operand} {x y:X},o.op= .binOp op ty a b ty'->eF P o [(a,x),(b,y)] h (f x y)
theorem jE (op:BinOp):mV P op (ic op):=by
 intro o h ty ty' a b x y ho k r e
 have fG:iU (pQ op x y) h k=some r->∃ x_1 h',k x_1 h'=some r/\(∀ fl,aM fl h h')/\((∀ p ∈ h'.fa,p)->∀ (M:Rel) fl w0 V w (ev:Operand->Value),M.R w0 V h w->(∀ q ∈ [(a,x),(b,y)],den V q.2 (ev q.1))->(∀ v,ev (.const v)=v)->
   dw M P w0 fl V h w x_1 h' ((execOp ev o).run P w)):=by
  intro e
  obtain ⟨c,q,e1⟩:=tL e
  refine ⟨c,_,e1,fun fl=> .fG,fun hf M fl w0 V w ev hm hd _=> ?_⟩
  obtain ⟨u,v,z,h1,h2,h3,h4,h5⟩:pQ op x y c:=hf _ (List.mem_cons_self ..)
  rw [JW h5 (jk h1 (hd (a,x) (by simp))) (jk h2 (hd (b,y) (by simp))) ho]
  exact ⟨z,w,V,.inl rfl,M.fG hm,xK h3 h4,.refl ..⟩
 rcases aF e with ⟨_,e1⟩|⟨_,e1⟩
 ·exact fG e1
 ·rcases aF e1 with ⟨_,e2⟩|⟨_,e2⟩
  ·exact fG e2
  ·obtain ⟨u,hu,e3⟩:=rG e2
   obtain ⟨v,hv,e4⟩:=rG e3
   cases hs:bP op u v with
   |none=>rw [hs] at e4;cases e4
   |some z=>
    rw [hs] at e4
    have e5:om z (fun x=>k x h)=some r:=e4
    rw [xL] at e5
    refine ⟨_,h,e5,fun fl=> .refl _ _,fun _ M fl w0 V w ev hm hd _=> ?_⟩
    rw [JW hs (jk hu (hd (a,x) (by simp))) (jk hv (hd (b,y) (by simp))) ho]
    exact .pure hm (mR (QA hs).2)
theorem aj3 {V:Vw} {u v:Value} (ht:kg x y=true) (hx:den V x u) (hy:den V y v):
  ∃ p q,x.n=32*p/\y.n=32*q/\u= .int .i64 (Int.ofNat p)/\v= .int .i64 (Int.ofNat q):=by
 obtain ⟨h1,h2⟩:=JS ht
 exact ⟨x.n / 32,y.n / 32,by omega,by omega,(dO h1).1 hx,(dO h2).1 hy⟩
theorem fast {op:BinOp} (ho:o.op= .binOp op ty a b ty') (ht:kg x y=true) {c:X} {k:Kx} {r} (e:k c h=some r)
  (hc:∀ p q,x.n=32*p->y.n=32*q->∃ z,bP op (.int .i64 (Int.ofNat p)) (.int .i64 (Int.ofNat q))=some z/\∀ V,den V c z):
  ∃ x_1 h',k x_1 h'=some r/\(∀ fl,aM fl h h')/\((∀ p ∈ h'.fa,p)->∀ (M:Rel) fl w0 V w (ev:Operand->Value),M.R w0 V h w->(∀ q ∈ [(a,x),(b,y)],den V q.2 (ev q.1))->(∀ v,ev (.const v)=v)->
   dw M P w0 fl V h w x_1 h' ((execOp ev o).run P w)):=by
 refine ⟨c,h,e,fun fl=> .refl _ _,fun _ M fl w0 V w ev hm hd _=> ?_⟩
 obtain ⟨p,q,h1,h2,h3,h4⟩:=aj3 ht (hd (a,x) (by simp)) (hd (b,y) (by simp))
 obtain ⟨z,h5,h6⟩:=hc p q h1 h2
 rw [JW h5 h3 h4 ho]
 exact .pure hm (h6 V)
theorem EJ {op:BinOp} {p q:Nat} {m:Nat} (hm:32*m<=mQ) (h:bP op (.int .i64 (Int.ofNat p)) (.int .i64 (Int.ofNat q))=some (.int .i64 (IntKind.i64.wrap (Int.ofNat m)))):
 bP op (.int .i64 (Int.ofNat p)) (.int .i64 (Int.ofNat q))=some (.int .i64 (Int.ofNat m)):=by rw [h,JV hm]
theorem aj4:mV P .add P8:=by
 intro o h ty ty' a b x y ho k r e
 rcases aF e with ⟨h1,e1⟩|⟨_,e1⟩
 ·rcases aF (show ah (Nat.ble (Nat.add x.n y.n) mQ) (k (aK (Nat.add x.n y.n)) h) (ic .add x y h k)=some r from e1) with ⟨h2,e2⟩|⟨_,e2⟩
  ·refine fast ho h1 e2 fun p q hp hq=>⟨.int .i64 (Int.ofNat (p+q)),?_,fun V=>rH (by show x.n+y.n=_;omega)⟩
   have:=bI h2
   exact EJ (by have:x.n+y.n<=mQ:=this;omega) (by simp only [bP,if_true];rfl)
  ·exact jE .add ho k r e2
 ·exact jE .add ho k r e1
theorem aj5:mV P .sub P9:=by
 intro o h ty ty' a b x y ho k r e
 rcases aF e with ⟨h1,e1⟩|⟨_,e1⟩
 ·rcases aF e1 with ⟨h2,e2⟩|⟨_,e2⟩
  ·rcases aF e2 with ⟨h3,e3⟩|⟨_,e3⟩
   ·have e4:k (aK (Nat.sub x.n y.n)) h=some r:=e3
    refine fast ho h1 e4 fun p q hp hq=>⟨.int .i64 (Int.ofNat (p - q)),?_,fun V=>rH (by show x.n - y.n=_;omega)⟩
    have h2:=bI h2
    have h3:=bI h3
    refine EJ (by omega) ?_
    simp only [bP,if_true]
    rw [show Int.ofNat p - Int.ofNat q=Int.ofNat (p - q) by simp only [Int.ofNat_eq_natCast];omega]
   ·exact jE .sub ho k r e3
  ·exact jE .sub ho k r e2
 ·exact jE .sub ho k r e1
theorem aj6:mV P .mul Qa:=by
 intro o h ty ty' a b x y ho k r e
 rcases aF e with ⟨h1,e1⟩|⟨_,e1⟩
 ·have hs:Nat.shiftRight y.n 5=y.n / 32:=shr _ 5
  rcases aF (show ah (Nat.ble (Nat.mul x.n (Nat.shiftRight y.n 5)) mQ) (k (aK (Nat.mul x.n (Nat.shiftRight y.n 5))) h) (ic .mul x y h k)=some r from e1) with ⟨h2,e2⟩|⟨_,e2⟩
  ·rw [hs] at h2 e2
   have e3:∀ p q,x.n=32*p->y.n=32*q->Nat.mul x.n (y.n / 32)=32*(p*q):=fun p q hp hq=>by
    rw [hp,hq,show 32*q / 32=q by omega];exact Nat.mul_assoc _ _ _
   refine fast ho h1 e2 fun p q hp hq=>⟨.int .i64 (Int.ofNat (p*q)),?_,fun V=>rH (e3 p q hp hq)⟩
   have:=bI h2
   rw [e3 p q hp hq] at this
   exact EJ this (by simp only [bP,if_true];rfl)
  ·exact jE .mul ho k r e2
 ·exact jE .mul ho k r e1
theorem aj7:mV P .quo Qb:=by
 intro o h ty ty' a b x y ho k r e
 rcases aF e with ⟨h1,e1⟩|⟨_,e1⟩
 ·rcases aF e1 with ⟨_,e2⟩|⟨h2,e2⟩
  ·cases e2
  ·rcases aF e2 with ⟨h3,e3⟩|⟨_,e3⟩
   ·have e4:k (aK (Nat.mul 32 (Nat.div x.n y.n))) h=some r:=e3
    have h2:=gq h2
    have h3:=bI h3
    have e5:∀ p q,x.n=32*p->y.n=32*q->Nat.div x.n y.n=p / q:=fun p q hp hq=>by
     rw [hp,hq];exact Nat.mul_div_mul_left p q (by decide)
    refine fast ho h1 e4 fun p q hp hq=>⟨.int .i64 (Int.ofNat (p / q)),?_,fun V=>rH (by rw [e5 p q hp hq];rfl)⟩
    have hq0:q≠0:=by omega
    have:p / q<=p:=Nat.div_le_self p q
    refine EJ (by omega) ?_
    simp only [bP]
    rw [if_pos ⟨trivial,by simp only [Int.ofNat_eq_natCast];omega⟩]
    rfl
   ·exact jE .quo ho k r e3
 ·exact jE .quo ho k r e1
theorem aj8:mV P .rem Qc:=by
 intro o h ty ty' a b x y ho k r e
 rcases aF e with ⟨h1,e1⟩|⟨_,e1⟩
 ·rcases aF e1 with ⟨_,e2⟩|⟨h2,e2⟩
  ·cases e2
  ·have e4:k (aK (Nat.mod x.n y.n)) h=some r:=e2
   have h2:=gq h2
   have e5:∀ p q,x.n=32*p->y.n=32*q->Nat.mod x.n y.n=32*(p % q):=fun p q hp hq=>by
    rw [hp,hq];exact Nat.mul_mod_mul_left 32 p q
   refine fast ho h1 e4 fun p q hp hq=>⟨.int .i64 (Int.ofNat (p % q)),?_,fun V=>rH (e5 p q hp hq)⟩
   have hq0:q≠0:=by omega
   simp only [bP]
   rw [if_pos ⟨trivial,by simp only [Int.ofNat_eq_natCast];omega⟩]
   rfl
 ·exact jE .rem ho k r e1
theorem zT {op:BinOp} (g:Nat->Nat->Bool) (hg:∀ p q,bP op (.int .i64 (Int.ofNat p)) (.int .i64 (Int.ofNat q))=some (.bool (g (32*p) (32*q)))) (ho:o.op= .binOp op ty a b ty') (ht:kg x y=true)
  {k:Kx} {r} (e:ah (g x.n y.n) (k xT h) (k xF h)=some r):∃ x_1 h',k x_1 h'=some r/\(∀ fl,aM fl h h')/\((∀ p ∈ h'.fa,p)->∀ (M:Rel) fl w0 V w (ev:Operand->Value),M.R w0 V h w->(∀ q ∈ [(a,x),(b,y)],den V q.2 (ev q.1))->(∀ v,ev (.const v)=v)->
   dw M P w0 fl V h w x_1 h' ((execOp ev o).run P w)):=by
 rcases aF e with ⟨h2,e2⟩|⟨h2,e2⟩
 ·exact fast ho ht e2 fun p q hp hq=>⟨_,hg p q,fun V=>by rw [<-hp,<-hq,h2];exact Cr⟩
 ·exact fast ho ht e2 fun p q hp hq=>⟨_,hg p q,fun V=>by rw [<-hp,<-hq,h2];exact JU⟩
theorem JX {b:Bool} {t e:R}:ah b t e=ah (!b) e t:=by cases b<;>rfl
theorem aj9:mV P .eql Cc:=by
 intro o h ty ty' a b x y ho k r e
 rcases aF e with ⟨h1,e1⟩|⟨_,e1⟩
 ·refine zT Nat.beq (fun p q=> ?_) ho h1 e1
  simp only [bP,if_true]
  congr 2
  rw [Bool.eq_iff_iff]
  simp only [beq_iff_eq,Nat.beq_eq,Int.ofNat_eq_natCast]
  omega
 ·exact jE .eql ho k r e1
theorem akb:mV P .neq Qd:=by
 intro o h ty ty' a b x y ho k r e
 rcases aF e with ⟨h1,e1⟩|⟨_,e1⟩
 ·rw [JX] at e1
  refine zT (fun m n=> !Nat.beq m n) (fun p q=> ?_) ho h1 e1
  simp only [bP,if_true]
  congr 2
  rw [Bool.eq_iff_iff]
  simp only [bne_iff_ne,ne_eq,Bool.not_eq_true',Int.ofNat_eq_natCast,<-Bool.not_eq_true,Nat.beq_eq]
  omega
 ·exact jE .neq ho k r e1
theorem akc:mV P .lss Qe:=by
 intro o h ty ty' a b x y ho k r e
 rcases aF e with ⟨h1,e1⟩|⟨_,e1⟩
 ·rw [JX] at e1
  refine zT (fun m n=> !Nat.ble n m) (fun p q=> ?_) ho h1 e1
  simp only [bP,if_true]
  congr 2
  rw [Bool.eq_iff_iff]
  simp only [decide_eq_true_eq,Bool.not_eq_true',Int.ofNat_eq_natCast,<-Bool.not_eq_true,Nat.ble_eq]
  omega
 ·exact jE .lss ho k r e1
theorem akd:mV P .leq Qf:=by
 intro o h ty ty' a b x y ho k r e
 rcases aF e with ⟨h1,e1⟩|⟨_,e1⟩
 ·refine zT Nat.ble (fun p q=> ?_) ho h1 e1
  simp only [bP,if_true]
  congr 2
  rw [Bool.eq_iff_iff]
  simp only [decide_eq_true_eq,Int.ofNat_eq_natCast,Nat.ble_eq]
  omega
 ·exact jE .leq ho k r e1
theorem ake:mV P .gtr Qg:=by
 intro o h ty ty' a b x y ho k r e
 rcases aF e with ⟨h1,e1⟩|⟨_,e1⟩
 ·rw [JX] at e1
  refine zT (fun m n=> !Nat.ble m n) (fun p q=> ?_) ho h1 e1
  simp only [bP,if_true]
  congr 2
  rw [Bool.eq_iff_iff]
  simp only [decide_eq_true_eq,Bool.not_eq_true',Int.ofNat_eq_natCast,<-Bool.not_eq_true,Nat.ble_eq]
  omega
 ·exact jE .gtr ho k r e1
theorem akf:mV P .geq Qh:=by
 intro o h ty ty' a b x y ho k r e
 rcases aF e with ⟨h1,e1⟩|⟨_,e1⟩
 ·refine zT (fun m n=>Nat.ble n m) (fun p q=> ?_) ho h1 e1
  simp only [bP,if_true]
  congr 2
  rw [Bool.eq_iff_iff]
  simp only [decide_eq_true_eq,Int.ofNat_eq_natCast,Nat.ble_eq]
  omega
 ·exact jE .geq ho k r e1
theorem akg (op:BinOp):mV P op (Qi op).f:=by
 cases op<;>first|exact aj4|exact aj5|exact aj6|exact aj7|exact aj8|exact aj9|exact akb|exact akc|exact akd|exact ake|exact akf|exact jE _
end bin
end
end
end Go.M
