/-
  Part of a proof: lemmas and definitions of this work.
  No condition.
-/
import Derived.Test.YtpfhpakpcjfopaaGreatI06
import Derived.Test.YtpfhpakpcjfopaaGreatI00
import Derived.Test.YtpfhpakpcjfopaaGreatI07
import Derived.Test.YtpfhpakpcjfopaaGreatI01
import Derived.Test.YtpfhpakpcjfopaaGreatI02
set_option linter.all false
set_option maxRecDepth 100000
set_option maxHeartbeats 8000000
namespace Go.M
open Go
open Go.Eng (SOp SOper SCode)
noncomputable section
variable [aY]
abbrev FX:=T3
abbrev Loc:=List X
structure Ac where
 g:FX->Loc->X
structure FO where
 f:FX->Loc->Hp->Kx->R
abbrev Kc:=Nat->FX->Hp->R
structure FR where
 f:FX->Loc->Hp->Kc->R
structure FCd where
 f:FX->Hp->(Nat->FX->Hp->R)->R
structure FC where
 f:List X->Hp->Kx->R
def bM:FR:=⟨fun _ _ _ _=>none⟩
def J8:FC:=⟨fun _ _ _=>none⟩
def rM:X:=⟨31,[],oZ⟩
def QO (j:Nat):Ac:=⟨fun fr _=>(eP.get j).g fr⟩
def EW (i:Nat):Ac:= @Nat.rec (fun _=>Ac) ⟨fun _ l=>eD l rM fun x _=>x⟩ (fun _ ih=>⟨fun fr l=>eD l rM fun _ t=>ih.g fr t⟩) i
def mX (v:Value):Bool:=v.oneCell'
def EX (x:X):Ac:= @X.rec (fun _=>Ac) (fun _=>Unit) (fun n l o _=> @Nat.rec (fun _=>Ac) ⟨fun _ _=>x⟩ (fun m _=>⟨fun _ _=>⟨m,l,o⟩⟩) (Nat.succ n)) () (fun _ _ _ _=>()) x
inductive D where
 |loc (p:Nat)
 |slot (j:Nat)
 |con (x:X)
structure AL where
 p:Nat
 off:Nat
 gd:Option (Nat×Bool)
structure En where
 T:List (Nat×D)
 A:List (Nat×AL)
 C:List (Nat×D)
 n:Nat
def lk {α:Type} (L:List (Nat×α)) (k:Nat):Option α:= @List.rec (Nat×α) (fun _=>Option α) none (fun p _ ih=>cnd (Nat.beq p.1 k) (some p.2) ih) L
def ix (G:List Nat) (k:Nat):Option Nat:= @List.rec Nat (fun _=>Option Nat) none (fun j _ ih=>cnd (Nat.beq j k) (some 0) (@Option.rec Nat (fun _=>Option Nat) none (fun i=>some (Nat.succ i)) ih)) G
def mem (G:List Nat) (k:Nat):Bool:= @List.rec Nat (fun _=>Bool) false (fun j _ ih=>cnd (Nat.beq j k) true ih) G
def jl {α:Type} (L:List (Nat×α)) (k:Nat):List (Nat×α):= @List.rec (Nat×α) (fun _=>List (Nat×α)) [] (fun p _ ih=>cnd (Nat.beq p.1 k) ih (p::ih)) L
structure Cx where
 cl:Nat->FC
 G:List Nat
 PV:List Nat
 FL:List Nat
 fu:Nat
def ko (n:Nat) (d:D):Ac:= @D.rec (fun _=>Ac) (fun p=>EW (Nat.sub (Nat.sub n 1) p)) QO EX d
abbrev oD {α:Type} (o:Option D) (z:α) (k:D->α):α:= @Option.rec D (fun _=>α) z (fun d=>k d) o
def dT (cx:Cx) (en:En) (k:Nat):Option D:= @Option.rec D (fun _=>Option D) (cnd (mem cx.PV k) none (cnd (@Option.rec AL (fun _=>Bool) false (fun _=>true) (lk en.A k)) none (@Option.rec Nat (fun _=>Option D) none (fun j=>some (.slot j)) (ix cx.G k)))) (fun d=>some d) (lk en.T k)
def EY (cx:Cx) (en:En) (x:Operand):Option D:=match x with
 | .tmp k=>dT cx en k
 | .const v=>cnd (mX v) (some (.con (dK v))) none
 | .func f=>cnd (Nat.blt f 1000000) (some (.con ⟨32*f+9,[],oZ⟩)) none
 | .global _=>none
def bN (cx:Cx) (en:En) (x:Operand):Option Ac:=oD (EY cx en x) none fun d=>some (ko en.n d)
def vC (cx:Cx) (en:En) (xs:List Operand):Option (List Ac):= @List.rec Operand (fun _=>Option (List Ac)) (some []) (fun x _ ih=> @Option.rec Ac (fun _=>Option (List Ac)) none (fun a=> @Option.rec (List Ac) (fun _=>Option (List Ac)) none (fun as=>some (a::as)) ih) (bN cx en x)) xs
structure J9 where
 f:FX->Loc->(List X->R)->R
def pX (as:List Ac):J9:= @List.rec Ac (fun _=>J9) ⟨fun _ _ k=>k []⟩ (fun a _ ih=>⟨fun fr l k=>opn (a.g fr l) fun n m o=>ih.f fr l fun xs=>k (⟨n,m,o⟩::xs)⟩) as
structure EZ where
 f:FX->Loc->List X->(List X->R)->R
def E5 (ps:List (Nat×Nat×Ac)):EZ:= @List.rec (Nat×Nat×Ac) (fun _=>EZ) ⟨fun _ _ c k=>k c⟩
 (fun p _ ih=>⟨fun fr l c k=>oo (p.2.2.g fr l) fun ys=>ah (Nat.beq (di ys) p.2.1) ((jZ p.1).f c ys fun c=>ih.f fr l c k) none⟩) ps
def E8 (sz:Nat) (ps:List (Nat×Ac)):EZ:= @List.rec (Nat×Ac) (fun _=>EZ) ⟨fun _ _ c k=>k c⟩
 (fun p _ ih=>⟨fun fr l c k=>oo (p.2.g fr l) fun ys=>ah (Nat.beq (di ys) sz) ((tq p.1).f c ⟨Nat.add (Nat.mul 32 sz) 2,ys,oZ⟩ fun c=>ih.f fr l c k) none⟩) ps
def vE {α β:Type} (f:α->Option β):List α->Option (List β)
 |[]=>some []
 |x::l=>match f x,vE f l with
  |some y,some r=>some (y::r)
  |_,_=>none
def Ka (h:Hp) (k:Kx):R:=oq ⟨3,[],oZ⟩ h fun b h=>aJ (Nat.add (Nat.mul 32 b) 10) fun n=>k (aK n) h
def Cw (x:X) (k:Nat->R):R:=aJ x.n fun n=>ah (Nat.beq (Nat.land n 31) 0) (k n) (ah (Nat.beq (Nat.land n 31) 4) (k n) none)
def kM (n:Nat):Nat:=cnd (Nat.beq (Nat.land n 31) 0) 31 511
def E9 (es:List X):Nat->(X->R)->R->R:= @List.rec X (fun _=>Nat->(X->R)->R->R) (fun _ _ z=>z)
 (fun e _ ih n f z=>ah (Nat.beq (Nat.land e.n (kM n)) (Nat.land n (kM n))) (ah (Nat.beq e.n n) (eD e.l none fun c _=>f c) (ih n f z)) none) es
def xk (es:List X):Nat->X->(List X->R)->R:= @List.rec X (fun _=>Nat->X->(List X->R)->R) (fun n x k=>k [⟨n,[x],oZ⟩])
 (fun e t ih n x k=>ah (Nat.beq (Nat.land e.n (kM n)) (Nat.land n (kM n))) (ah (Nat.beq e.n n) (k (⟨n,[x],oZ⟩::t)) (ih n x fun r=>k (e::r))) none) es
def vF (m:X) (h:Hp) (k:Nat->List X->R):R:=aJ m.n fun n=>ah (Nat.beq (Nat.land n 31) 10) (aJ (Nat.shiftRight n 5) fun b=>JH b h fun bn es=>ah (Nat.beq bn 3) (k b es) none) none
def QR (z m y:X) (h:Hp) (k:Kx):R:=vF m h fun _ es=>Cw y fun n=>E9 es n (fun c=>k c h) (k z h)
def QS (z m y:X) (h:Hp) (k:Kx):R:=vF m h fun _ es=>Cw y fun n=>E9 es n (fun c=>k ⟨3,[c,xT],oZ⟩ h) (k ⟨3,[z,xF],oZ⟩ h)
def QT (m y x:X) (h:Hp) (k:Kx):R:=vF m h fun b es=>Cw y fun n=>opn x fun a l o=>xk es n ⟨a,l,o⟩ fun es=>j6 b ⟨3,es,oZ⟩ h fun h=>k xU h
def Kb (a c:X):Prop:=∃ s:ByteArray,dL a=some (.string s)/\dL c=some (.int .i64 s.size)
def QU (a:X) (h:Hp) (k:Kx):R:=ah (rC a) (iU (Kb a) h k) (pO a fun u=>match u with
 | .string s=>om (.int .i64 (Int.ofNat s.data.toList.length)) fun x=>k x h
 |_=>none)
def zW:List X->Option (List UInt8)
 |[]=>some []
 |x::l=>match x.l,zW l with
  |[c],some r=>bif Nat.beq (Nat.land c.n 511) 4 then some ((Nat.shiftRight c.n 9).toUInt8::r) else none
  |_,_=>none
def QV (s:X) (h:Hp) (k:Kx):R:=pR 1 s h fun rows=> @Option.rec (List UInt8) (fun _=>R) none (fun l=>k ⟨12,[],.string ⟨l.toArray⟩⟩ h) (zW rows)
def QW (s i:X) (h:Hp) (k:Kx):R:=pO s fun u=>match u with
 | .string s=>aJ (s.data.toList.length) fun len=>xE i len fun i=>om (.int .u8 (Int.ofNat (s.data.toList.getD i 0).toNat)) fun x=>k x h
 |_=>none
def Ke (s:X) (h:Hp) (k:Kx):R:=aJ s.n fun n=>ah (Nat.beq n 6) (k (aK 0) h) (ah (Nat.beq (Nat.land n 31) 8) (kS n fun b off len c=>ah (Nat.beq c 1) (aJ (Nat.mul 32 len) fun m=>k (aK m) h)
 (kU b h fun bn e rows=>ah (Nat.beq (Nat.land bn 31) 1) (aJ (Nat.div (Nat.sub (Nat.mul e (di rows)) off) e) fun m=>aJ (Nat.mul 32 m) fun m=>k (aK m) h) none)) none)
def Kg (n sz:Nat) (p:X) (h:Hp) (k:Kx):R:=ah (Nat.beq n 0) none (zO p fun b off=>kU b h fun bn e rows=>ah (Nat.beq e sz) (ah (Nat.beq (Nat.land bn 31) 1) (ah (Nat.beq (Nat.add off (Nat.mul n sz)) (Nat.mul (di rows) e)) (gZ b off n 0 h k) none) none) none)
abbrev St:=En->(En->FR)->FR
def mY (g:Option (Nat×Bool)) (t:Nat):Bool:= @Option.rec (Nat×Bool) (fun _=>Bool) false (fun p=>Nat.beq p.1 t) g
def jm (L:List (Nat×AL)) (t:Nat):List (Nat×AL):= @List.rec (Nat×AL) (fun _=>List (Nat×AL)) [] (fun p _ ih=>cnd (Nat.beq p.1 t) ih (cnd (mY p.2.gd t) ih (p::ih))) L
def zX (L:List (Nat×AL)) (p:Nat):Bool:= @List.rec (Nat×AL) (fun _=>Bool) false (fun a _ ih=>cnd (Nat.beq a.2.p p) true ih) L
def mZ (en:En) (t:Nat) (d:D):En:=⟨(t,d)::jl en.T t,jm en.A t,en.C,en.n⟩
def pY (en:En) (t:Nat):En:=⟨(t,.loc en.n)::jl en.T t,jm en.A t,en.C,Nat.succ en.n⟩
def ng (en:En) (t:Nat) (a:AL):En:=⟨jl en.T t,(t,a)::jm en.A t,en.C,en.n⟩
def emit (f:FO) (dst:Option Nat) (en:En) (ih:En->FR):FR:= @Option.rec Nat (fun _=>FR) ⟨fun fr l h k=>f.f fr l h fun _ h=>(ih en).f fr l h k⟩
 (fun t=>⟨fun fr l h k=>f.f fr l h fun x h=>(ih (pY en t)).f fr (x::l) h k⟩) dst
abbrev oR {α:Type} (a:Option α) (k:α->FR):FR:= @Option.rec α (fun _=>FR) bM (fun a=>k a) a
def p8 {α:Type} (x:X) (z:α) (k:X->α):α:= @X.rec (fun _=>α) (fun _=>Unit) (fun n l o _=> @Nat.rec (fun _=>α) z (fun m _=>k ⟨m,l,o⟩) (Nat.succ n)) () (fun _ _ _ _=>()) x
def lN (zs:List Value):List X:=zs.map dK
def zY (s:Ac):Ac:=⟨fun fr l=>⟨Nat.mul 32 (cnd (Nat.beq (Nat.land (s.g fr l).n 31) 8) (Nat.land (Nat.shiftRight (s.g fr l).n 6) 1048575) 0),[],oZ⟩⟩
def Fa (a:Ac) (want:Bool) (f:FO):FO:=cnd want
 ⟨fun fr l h k=>aJ (a.g fr l).n fun n=>ah (Nat.beq n 33) (f.f fr l h k) (ah (Nat.beq n 1) (k xU h) (ah (Nat.beq n 14) (k xU h) none))⟩
 ⟨fun fr l h k=>aJ (a.g fr l).n fun n=>ah (Nat.beq n 1) (f.f fr l h k) (ah (Nat.beq n 33) (k xU h) (ah (Nat.beq n 14) (k xU h) none))⟩
def zZ (f:FO):FO:=⟨fun fr l h k=>xB h fun n fl t fa q=>f.f fr l ⟨n,n,t,fa,q⟩ fun x h=>xB h fun n _ t fa q=>k x ⟨n,fl,t,fa,q⟩⟩
structure OL where
 dst:Option Nat
 op:SOp
 gd:Option (Nat×Bool)
 bF:Bool
 vp:Option (Option Nat)
def gen (cx:Cx) (o:OL) (en:En) (ih:En->FR) (f:FO):FR:=
 @Option.rec (Nat×Bool) (fun _=>FR) (emit (cnd o.bF (zZ f) f) o.dst en ih) (fun g=>oR (bN cx en (.tmp g.1)) fun a=>emit (Fa a g.2 (cnd o.bF (zZ f) f)) o.dst en ih) o.gd
abbrev Pl:=Cx->OL->En->(En->FR)->FR
def p1 (f:X->Hp->Kx->R) (x:Operand):Pl:=fun cx o en ih=>oR (bN cx en x) fun a=>gen cx o en ih ⟨fun fr l h k=>f (a.g fr l) h k⟩
def p2 (f:X->X->Hp->Kx->R) (x y:Operand):Pl:=fun cx o en ih=>oR (bN cx en x) fun a=>oR (bN cx en y) fun b=>gen cx o en ih ⟨fun fr l h k=>f (a.g fr l) (b.g fr l) h k⟩
def p3 (f:X->X->X->Hp->Kx->R) (x y z:Operand):Pl:=fun cx o en ih=>oR (bN cx en x) fun a=>oR (bN cx en y) fun b=>oR (bN cx en z) fun c=>gen cx o en ih ⟨fun fr l h k=>f (a.g fr l) (b.g fr l) (c.g fr l) h k⟩
def jF (cx:Cx) (en:En) (x:Operand):Option AL:=match x with
 | .tmp k=> @Option.rec AL (fun _=>Option AL) (cnd (mem cx.PV k) (some ⟨k,0,none⟩) none) (fun a=>some a) (lk en.A k)
 |_=>none
def tO (g g':Option (Nat×Bool)):Bool:=match g,g' with
 |none,_=>true
 |some (a,b),some (a',b')=>Nat.beq a a'&&(b==b')
 |_,_=>false
def cont (cx:Cx) (en:En) (p:Nat) (k:D->En->FR):FR:= @Option.rec D (fun _=>FR) (oR (ix cx.G p) fun j=>⟨fun fr l h k'=>aJ ((QO j).g fr []).n fun m=>ah (Nat.beq m 14) none ((k (.slot j) ⟨en.T,en.A,(p,.slot j)::en.C,en.n⟩).f fr l h k')⟩)
 (fun d=>k d en) (lk en.C p)
def ou (ag:Bool) (off sz:Nat) (c:X) (h:Hp) (k:Kx):R:=opn c fun n l o=>ah (Nat.beq (Nat.land n 31) 2)
 (ah ag (ah (Nat.beq n (Nat.add (Nat.mul 32 sz) 2)) (ah (Nat.beq off 0) (k ⟨n,l,o⟩ h) none) ((rz off).f l fun c=>(takeB sz).f c fun c=>k ⟨Nat.add (Nat.mul 32 sz) 2,c,oZ⟩ h)) ((kR off).f l fun c=>fF c h k))
 (ah (Nat.beq off 0) (ah ag none (k ⟨n,l,o⟩ h)) none)
def Fb (off sz:Nat) (c y:X) (h:Hp) (k:Kx):R:=opn c fun n l _=>opn y fun m r o=>ah (Nat.beq n m) (ah (Nat.beq off 0) (ah (Nat.beq n (Nat.add (Nat.mul 32 sz) 2)) (k ⟨m,r,o⟩ h) (ah (Nat.beq (Nat.land n 31) 2) none (ah (Nat.beq sz 1) (ah (Nat.beq (Nat.land m 31) 3) none (ah (Nat.beq (Nat.land m 31) 14) none (k ⟨m,r,o⟩ h))) none))) none)
 (ah (Nat.beq (Nat.land n 31) 2)
  (ah (Nat.beq (Nat.land m 31) 2) (ah (Nat.beq m (Nat.add (Nat.mul 32 sz) 2)) ((jZ off).f l r fun c=>k ⟨n,c,oZ⟩ h) none)
   (ah (Nat.beq sz 1) (ah (Nat.beq (Nat.land m 31) 3) none (ah (Nat.beq (Nat.land m 31) 14) none ((tq off).f l ⟨m,r,o⟩ fun c=>k ⟨n,c,oZ⟩ h))) none))
  (ah (Nat.beq off 0) (ah (Nat.beq sz 1) (ah (Nat.beq (Nat.land m 31) 2) none (ah (Nat.beq (Nat.land m 31) 3) none (ah (Nat.beq (Nat.land m 31) 14) none (k ⟨m,r,o⟩ h)))) none) none))
def Kh (y:X) (h:Hp) (k:Kx):R:=opn y fun n l o=>ah (Nat.beq (Nat.land n 31) 3) none (ah (Nat.beq (Nat.land n 31) 14) none (k ⟨n,l,o⟩ h))
def vG (cx:Cx) (o:OL) (en:En) (p:Nat) (d:D) (ih:En->FR):FR:=cnd (zX en.A p) bM (ih ⟨jl en.T p,jm en.A p,(p,d)::jl en.C p,en.n⟩)
def vH (v:Option (Option Nat)) (a:Option AL):Bool:= @Option.rec (Option Nat) (fun _=>Bool) true (fun q=> @Option.rec Nat (fun _=>Bool) (@Option.rec AL (fun _=>Bool) true (fun _=>false) a) (fun p=> @Option.rec AL (fun _=>Bool) false (fun a=>Nat.beq a.p p) a) q) v
def Cy (cx:Cx) (en:En) (g:Option (Nat×Bool)) (kk:FR):FR:= @Option.rec (Nat×Bool) (fun _=>FR) kk (fun g=>oR (bN cx en (.tmp g.1)) fun a=>
 ⟨fun fr l h k=>aJ (a.g fr l).n fun n=>ah (Nat.beq n 33) (kk.f fr l h k) (ah (Nat.beq n 1) (kk.f fr l h k) (ah (Nat.beq n 14) (kk.f fr l h k) none))⟩) g
def Cz (cx:Cx) (en:En) (t:Nat) (a:AL) (ih:En->FR):FR:=cnd (mem cx.G t) bM (ih (ng en t a))
def vI (en:En) (p:Nat):En:=⟨en.T,en.A,(p,.loc en.n)::jl en.C p,Nat.succ en.n⟩
def CB (o:OL) (r:FR):FR:= @Option.rec (Nat×Bool) (fun _=>FR) r (fun _=>bM) o.gd
def Ki (x:Operand):Pl:=fun cx o en ih=>cnd (vH o.vp (jF cx en x)) (@Option.rec AL (fun _=>FR)
 (@Option.rec (Nat×Bool) (fun _=>FR) (@Option.rec Nat (fun _=>FR) (ih en) (fun t=>oR (EY cx en x) fun d=> @D.rec (fun _=>FR) (fun p=>ih (mZ en t (.loc p))) (fun j=>ih (mZ en t (.slot j))) (fun x=>p8 x bM fun x=>ih (mZ en t (.con x))) d) o.dst) (fun _=>p1 fF x cx o en ih) o.gd)
 (fun a=>oR o.dst fun t=>cnd (tO a.gd o.gd) (cont cx en a.p fun _ en=>Cy cx en o.gd (Cz cx en t ⟨a.p,a.off,o.gd⟩ ih)) bM) (jF cx en x)) bM
def QX (FL:List Nat) (t:Nat):Nat:= @List.rec Nat (fun _=>Nat) 0 (fun q _ ih=>cnd (Nat.beq (Nat.mod q 1048576) t) (cnd (Nat.blt q 1048576) ih (Nat.div q 1048576)) ih) FL
def chunk (sz m:Nat):List X->List X:= @Nat.rec (fun _=>List X->List X) (fun _=>[]) (fun _ ih l=>⟨32*sz+2,l.take sz,oZ⟩::ih (l.drop sz)) m
def Fe (zs:List Value) (sz:Nat):X:=cnd (Nat.beq sz 0) ⟨32*zs.length+1,[⟨32*zs.length+2,lN zs,oZ⟩],oZ⟩
 (cnd (Nat.beq (Nat.mul (Nat.div zs.length sz) sz) zs.length) ⟨32*sz+1,chunk sz (Nat.div zs.length sz) (lN zs),oZ⟩ ⟨32*zs.length+1,[⟨32*zs.length+2,lN zs,oZ⟩],oZ⟩)
def Kj (zs:List Value):Pl:=fun cx o en ih=>cnd (zs.all mX&&Nat.blt 0 zs.length) (p8 ⟨32*zs.length+2,lN zs,oZ⟩ bM fun z=>
 @Option.rec Nat (fun _=>FR) bM (fun t=>cnd (mem cx.PV t) (CB o (cnd (Nat.beq zs.length 1) (oR zs.head? fun v=>p8 (dK v) bM fun z=>vG cx o en t (.con z) ih) (vG cx o en t (.con z) ih)))
  (p8 (Fe zs (QX cx.FL t)) bM fun blk=>gen cx o en ih ⟨fun _ _ h k=>tC blk h k⟩)) o.dst) bM
def Kk (x:Operand):Pl:=fun cx o en ih=> @Option.rec Nat (fun _=>FR) bM (fun t=>cnd (mem cx.PV t) (CB o (oR (bN cx en x) fun a=>⟨fun fr l h k=>Kh (a.g fr l) h fun y h=>(vG cx o ⟨en.T,en.A,en.C,Nat.succ en.n⟩ t (.loc en.n) ih).f fr (y::l) h k⟩)) (p1 P7 x cx o en ih)) o.dst
def Kl (ag:Bool) (sz:Nat) (x:Operand):Pl:=fun cx o en ih=>cnd (vH o.vp (jF cx en x)) (@Option.rec AL (fun _=>FR) (p1 (xD ag sz) x cx o en ih)
 (fun a=>cnd (tO a.gd o.gd) (cont cx en a.p fun d en=>gen cx o en ih ⟨fun fr l h k=>ou ag a.off sz ((ko en.n d).g fr l) h k⟩) bM) (jF cx en x)) bM
def Km (sz:Nat) (x y:Operand):Pl:=fun cx o en ih=>cnd (vH o.vp (jF cx en x)) (@Option.rec AL (fun _=>FR) (p2 (Cb sz) x y cx o en ih)
 (fun a=>CB o (cnd (tO a.gd none) (cont cx en a.p fun d en=>oR (bN cx en y) fun b=>⟨fun fr l h k=>Fb a.off sz ((ko en.n d).g fr l) (b.g fr l) h fun x h=>(ih (vI en a.p)).f fr (x::l) h k⟩) bM)) (jF cx en x)) bM
def Kn (off:Nat) (x:Operand):Pl:=fun cx o en ih=>cnd (vH o.vp (jF cx en x)) (@Option.rec AL (fun _=>FR) (p1 (Qm off) x cx o en ih)
 (fun a=>oR o.dst fun t=>cnd (tO a.gd o.gd) (cont cx en a.p fun _ en=>Cy cx en o.gd (Cz cx en t ⟨a.p,Nat.add a.off off,o.gd⟩ ih)) bM) (jF cx en x)) bM
def Ko (x:Operand):Pl:=fun cx o en ih=>cnd (vH o.vp (jF cx en x)) (@Option.rec AL (fun _=>FR) (p1 JI x cx o en ih)
 (fun a=>oR o.dst fun t=>cnd (tO a.gd o.gd) (cont cx en a.p fun _ en=>Cy cx en o.gd (Cz cx en t ⟨a.p,a.off,o.gd⟩ ih)) bM) (jF cx en x)) bM
def Kq (zs:List Value) (ps:List (Nat×Nat×Operand)):Pl:=fun cx o en ih=>cnd (zs.all mX) (p8 ⟨32*zs.length+2,lN zs,oZ⟩ bM fun z=>oR (vE (fun p=> @Option.rec Ac (fun _=>Option (Nat×Nat×Ac)) none (fun a=>some (p.1,p.2.1,a)) (bN cx en p.2.2)) ps) fun ps=>
 gen cx o en ih ⟨fun fr l h k=>(E5 ps).f fr l z.l fun c=>k ⟨z.n,c,oZ⟩ h⟩) bM
def Kr (sz:Nat) (zs:List Value) (len:Nat) (ps:List (Nat×Operand)):Pl:=fun cx o en ih=>cnd (zs.all mX) (p8 ⟨32*sz+2,lN zs,oZ⟩ bM fun z=>oR (vE (fun p=> @Option.rec Ac (fun _=>Option (Nat×Ac)) none (fun a=>some (p.1,a)) (bN cx en p.2)) ps) fun ps=>
 gen cx o en ih ⟨fun fr l h k=>(E8 sz ps).f fr l (rA z len) fun rows=>aJ (Nat.add (Nat.mul 32 sz) 1) fun e=>oq ⟨e,rows,oZ⟩ h fun b h=>gZ b 0 len 0 h k⟩) bM
def Ff (f:Nat) (lim:Bool) (cs:List Operand):Pl:=fun cx o en ih=>cnd lim (oR (vC cx en cs) fun as=>gen cx o en ih ⟨fun fr l h k=>(pX as).f fr l fun xs=>aJ (Nat.add (Nat.mul 32 f) 9) fun m=>k ⟨m,xs,oZ⟩ h⟩) bM
def Aa (two:Bool) (z:Value) (m y:Operand):Pl:=fun cx o en ih=>cnd (mX z) (p8 (dK z) bM fun z=>p2 (cnd two (QS z) (QR z)) m y cx o en ih) bM
def Kt (sz aP:Nat) (zs:List Value) (x y:Operand):Pl:=fun cx o en ih=>cnd (zs.all mX) (p2 (JO sz aP (lN zs)) x y cx o en ih) bM
def Ku (sz aP:Nat) (zs:List Value) (x y:Operand):Pl:=fun cx o en ih=>cnd (zs.all mX) (p2 (JP sz aP (lN zs)) x y cx o en ih) bM
def Kv (sz:Nat) (zs:List Value) (x:Operand):Pl:=fun cx o en ih=>cnd (zs.all mX) (p1 (JQ sz (lN zs)) x cx o en ih) bM
def Kw (sz:Nat) (x:Operand) (lo hi mx:Option Operand):Pl:=fun cx o en ih=>oR (bN cx en x) fun a=>
 oR (@Option.rec Operand (fun _=>Option Ac) (some (EX (aK 0))) (fun y=>bN cx en y) lo) fun b=>
 @Option.rec Operand (fun _=>FR) (oR (@Option.rec Operand (fun _=>Option Ac) (some (zY a)) (fun y=>bN cx en y) hi) fun c=>gen cx o en ih ⟨fun fr l h k=>Ch sz (a.g fr l) (b.g fr l) (c.g fr l) h k⟩)
  (fun mx=>oR hi fun hi=>oR (bN cx en hi) fun c=>oR (bN cx en mx) fun d=>gen cx o en ih ⟨fun fr l h k=>EG sz (a.g fr l) (b.g fr l) (c.g fr l) (d.g fr l) h k⟩) mx
def Ky (mx:Bool) (xs:List Operand):Pl:=match xs with
 |[x,y]=>p2 (JN mx) x y
 |_=>fun _ _ _ _=>bM
def uQ (cl:Nat->FC) (a:Ac) (as:J9):FO:=⟨fun fr l h k=>opn (a.g fr l) fun n caps _=>ah (Nat.beq (Nat.land n 31) 9) (aJ (Nat.shiftRight n 5) fun f=>
 ah (Nat.ble 1000000 f) (ah (Nat.ble 2000000 f) none (aJ (Nat.sub f 1000000) fun g=>as.f fr l fun xs=>u6 caps xs fun ys=>(cl g).f ys h k)) (as.f fr l fun xs=>u6 xs caps fun ys=>(cl f).f ys h k)) none⟩
def Kz (f:Operand) (args:List Operand):Pl:=fun cx o en ih=>oR (vC cx en args) fun as=>match f with
 | .func g=>gen cx o en ih ⟨fun fr l h k=>(pX as).f fr l fun xs=>(cx.cl g).f xs h k⟩
 |f=>oR (bN cx en f) fun a=>gen cx o en ih (uQ cx.cl a (pX as))
def Fg:Pl:=fun _ _ _ _=>bM
def KA (op:UnOp) (x:Operand):Pl:=match op with
 | .not=>p1 Qj x
 | .neg=>p1 Qk x
 |_=>Fg
def KC (q:IntKind) (x:Operand):Pl:=match q with
 | .i64=>p1 JK x
 |q=>p1 (Ce q) x
def plan (op:SOp):Pl:= @SOp.casesOn (fun _=>Pl) op Ki (fun c a b=>p3 P6 c a b) Kj Kk Kq (fun _ sz zs len ps=>Kr sz zs len ps) Kl Km Ko (fun op x y=>p2 (Qi op).f x y)
 (fun neg ks x y=>p2 (JL neg ks) x y) (fun neg x y=>p2 (Cf neg) x y) (fun neg x=>p1 (Ql neg) x) KA KC (fun _ _=>Fg) (fun x=>p1 QV x) (fun f cs=>Ff f (Nat.blt f 1000000) cs) (fun f cs=>Ff (Nat.add f 1000000) (Nat.blt f 1000000) cs)
 (fun cx o en ih=>gen cx o en ih ⟨fun _ _ h k=>Ka h k⟩) (Aa false) (Aa true) (fun m x y=>p3 QT m x y) (fun _ sz aP zs x y=>Kt sz aP zs x y) Kw (fun _ _ _=>Fg) (fun n sz x=>p1 (Kg n sz) x) Kn (fun ag off sz x=>p1 (zP ag off sz) x) (fun sz x i=>p2 (Qn sz) x i)
 (fun len sz x i=>p2 (Qo len sz) x i) (fun ag len sz x i=>p2 (Qp ag len sz) x i) (fun x i=>p2 QW x i) (fun x=>p1 Qq x) (fun x=>p1 QU x) (fun x=>p1 Ke x) (fun _ sz aP _ x y=>p2 (Qr sz aP) x y) (fun _ sz aP zs x y=>Ku sz aP zs x y)
 Kv (fun sz x y=>p2 (Qs sz) x y) Fg (fun i x=>p1 (JM i) x) Ky Kz
structure aV where
 f:T3->X->(T3->R)->R
def pS0:aV:=⟨fun fr x k=> @N4.rec T2 (fun _=>R) (fun a b c d=> @N4.rec T1 (fun _=>R) (fun e f g i=> @N4.rec X (fun _=>R) (fun p q r s=>k ⟨⟨⟨x,q,r,s⟩,f,g,i⟩,b,c,d⟩) e) a) fr⟩
def pS1:aV:=⟨fun fr x k=> @N4.rec T2 (fun _=>R) (fun a b c d=> @N4.rec T1 (fun _=>R) (fun e f g i=> @N4.rec X (fun _=>R) (fun p q r s=>k ⟨⟨⟨p,x,r,s⟩,f,g,i⟩,b,c,d⟩) e) a) fr⟩
def pS2:aV:=⟨fun fr x k=> @N4.rec T2 (fun _=>R) (fun a b c d=> @N4.rec T1 (fun _=>R) (fun e f g i=> @N4.rec X (fun _=>R) (fun p q r s=>k ⟨⟨⟨p,q,x,s⟩,f,g,i⟩,b,c,d⟩) e) a) fr⟩
def pS3:aV:=⟨fun fr x k=> @N4.rec T2 (fun _=>R) (fun a b c d=> @N4.rec T1 (fun _=>R) (fun e f g i=> @N4.rec X (fun _=>R) (fun p q r s=>k ⟨⟨⟨p,q,r,x⟩,f,g,i⟩,b,c,d⟩) e) a) fr⟩
def pS4:aV:=⟨fun fr x k=> @N4.rec T2 (fun _=>R) (fun a b c d=> @N4.rec T1 (fun _=>R) (fun e f g i=> @N4.rec X (fun _=>R) (fun p q r s=>k ⟨⟨e,⟨x,q,r,s⟩,g,i⟩,b,c,d⟩) f) a) fr⟩
def pS5:aV:=⟨fun fr x k=> @N4.rec T2 (fun _=>R) (fun a b c d=> @N4.rec T1 (fun _=>R) (fun e f g i=> @N4.rec X (fun _=>R) (fun p q r s=>k ⟨⟨e,⟨p,x,r,s⟩,g,i⟩,b,c,d⟩) f) a) fr⟩
def pS6:aV:=⟨fun fr x k=> @N4.rec T2 (fun _=>R) (fun a b c d=> @N4.rec T1 (fun _=>R) (fun e f g i=> @N4.rec X (fun _=>R) (fun p q r s=>k ⟨⟨e,⟨p,q,x,s⟩,g,i⟩,b,c,d⟩) f) a) fr⟩
def pS7:aV:=⟨fun fr x k=> @N4.rec T2 (fun _=>R) (fun a b c d=> @N4.rec T1 (fun _=>R) (fun e f g i=> @N4.rec X (fun _=>R) (fun p q r s=>k ⟨⟨e,⟨p,q,r,x⟩,g,i⟩,b,c,d⟩) f) a) fr⟩
def pS8:aV:=⟨fun fr x k=> @N4.rec T2 (fun _=>R) (fun a b c d=> @N4.rec T1 (fun _=>R) (fun e f g i=> @N4.rec X (fun _=>R) (fun p q r s=>k ⟨⟨e,f,⟨x,q,r,s⟩,i⟩,b,c,d⟩) g) a) fr⟩
def pS9:aV:=⟨fun fr x k=> @N4.rec T2 (fun _=>R) (fun a b c d=> @N4.rec T1 (fun _=>R) (fun e f g i=> @N4.rec X (fun _=>R) (fun p q r s=>k ⟨⟨e,f,⟨p,x,r,s⟩,i⟩,b,c,d⟩) g) a) fr⟩
def akO:aV:=⟨fun fr x k=> @N4.rec T2 (fun _=>R) (fun a b c d=> @N4.rec T1 (fun _=>R) (fun e f g i=> @N4.rec X (fun _=>R) (fun p q r s=>k ⟨⟨e,f,⟨p,q,x,s⟩,i⟩,b,c,d⟩) g) a) fr⟩
def akP:aV:=⟨fun fr x k=> @N4.rec T2 (fun _=>R) (fun a b c d=> @N4.rec T1 (fun _=>R) (fun e f g i=> @N4.rec X (fun _=>R) (fun p q r s=>k ⟨⟨e,f,⟨p,q,r,x⟩,i⟩,b,c,d⟩) g) a) fr⟩
def akQ:aV:=⟨fun fr x k=> @N4.rec T2 (fun _=>R) (fun a b c d=> @N4.rec T1 (fun _=>R) (fun e f g i=> @N4.rec X (fun _=>R) (fun p q r s=>k ⟨⟨e,f,g,⟨x,q,r,s⟩⟩,b,c,d⟩) i) a) fr⟩
def akR:aV:=⟨fun fr x k=> @N4.rec T2 (fun _=>R) (fun a b c d=> @N4.rec T1 (fun _=>R) (fun e f g i=> @N4.rec X (fun _=>R) (fun p q r s=>k ⟨⟨e,f,g,⟨p,x,r,s⟩⟩,b,c,d⟩) i) a) fr⟩
def akS:aV:=⟨fun fr x k=> @N4.rec T2 (fun _=>R) (fun a b c d=> @N4.rec T1 (fun _=>R) (fun e f g i=> @N4.rec X (fun _=>R) (fun p q r s=>k ⟨⟨e,f,g,⟨p,q,x,s⟩⟩,b,c,d⟩) i) a) fr⟩
def akT:aV:=⟨fun fr x k=> @N4.rec T2 (fun _=>R) (fun a b c d=> @N4.rec T1 (fun _=>R) (fun e f g i=> @N4.rec X (fun _=>R) (fun p q r s=>k ⟨⟨e,f,g,⟨p,q,r,x⟩⟩,b,c,d⟩) i) a) fr⟩
def akU:aV:=⟨fun fr x k=> @N4.rec T2 (fun _=>R) (fun a b c d=> @N4.rec T1 (fun _=>R) (fun e f g i=> @N4.rec X (fun _=>R) (fun p q r s=>k ⟨a,⟨⟨x,q,r,s⟩,f,g,i⟩,c,d⟩) e) b) fr⟩
def akV:aV:=⟨fun fr x k=> @N4.rec T2 (fun _=>R) (fun a b c d=> @N4.rec T1 (fun _=>R) (fun e f g i=> @N4.rec X (fun _=>R) (fun p q r s=>k ⟨a,⟨⟨p,x,r,s⟩,f,g,i⟩,c,d⟩) e) b) fr⟩
def akW:aV:=⟨fun fr x k=> @N4.rec T2 (fun _=>R) (fun a b c d=> @N4.rec T1 (fun _=>R) (fun e f g i=> @N4.rec X (fun _=>R) (fun p q r s=>k ⟨a,⟨⟨p,q,x,s⟩,f,g,i⟩,c,d⟩) e) b) fr⟩
def akX:aV:=⟨fun fr x k=> @N4.rec T2 (fun _=>R) (fun a b c d=> @N4.rec T1 (fun _=>R) (fun e f g i=> @N4.rec X (fun _=>R) (fun p q r s=>k ⟨a,⟨⟨p,q,r,x⟩,f,g,i⟩,c,d⟩) e) b) fr⟩
def akY:aV:=⟨fun fr x k=> @N4.rec T2 (fun _=>R) (fun a b c d=> @N4.rec T1 (fun _=>R) (fun e f g i=> @N4.rec X (fun _=>R) (fun p q r s=>k ⟨a,⟨e,⟨x,q,r,s⟩,g,i⟩,c,d⟩) f) b) fr⟩
def akZ:aV:=⟨fun fr x k=> @N4.rec T2 (fun _=>R) (fun a b c d=> @N4.rec T1 (fun _=>R) (fun e f g i=> @N4.rec X (fun _=>R) (fun p q r s=>k ⟨a,⟨e,⟨p,x,r,s⟩,g,i⟩,c,d⟩) f) b) fr⟩
def ak0:aV:=⟨fun fr x k=> @N4.rec T2 (fun _=>R) (fun a b c d=> @N4.rec T1 (fun _=>R) (fun e f g i=> @N4.rec X (fun _=>R) (fun p q r s=>k ⟨a,⟨e,⟨p,q,x,s⟩,g,i⟩,c,d⟩) f) b) fr⟩
def ak1:aV:=⟨fun fr x k=> @N4.rec T2 (fun _=>R) (fun a b c d=> @N4.rec T1 (fun _=>R) (fun e f g i=> @N4.rec X (fun _=>R) (fun p q r s=>k ⟨a,⟨e,⟨p,q,r,x⟩,g,i⟩,c,d⟩) f) b) fr⟩
def ak2:aV:=⟨fun fr x k=> @N4.rec T2 (fun _=>R) (fun a b c d=> @N4.rec T1 (fun _=>R) (fun e f g i=> @N4.rec X (fun _=>R) (fun p q r s=>k ⟨a,⟨e,f,⟨x,q,r,s⟩,i⟩,c,d⟩) g) b) fr⟩
def ak3:aV:=⟨fun fr x k=> @N4.rec T2 (fun _=>R) (fun a b c d=> @N4.rec T1 (fun _=>R) (fun e f g i=> @N4.rec X (fun _=>R) (fun p q r s=>k ⟨a,⟨e,f,⟨p,x,r,s⟩,i⟩,c,d⟩) g) b) fr⟩
def ak4:aV:=⟨fun fr x k=> @N4.rec T2 (fun _=>R) (fun a b c d=> @N4.rec T1 (fun _=>R) (fun e f g i=> @N4.rec X (fun _=>R) (fun p q r s=>k ⟨a,⟨e,f,⟨p,q,x,s⟩,i⟩,c,d⟩) g) b) fr⟩
def ak5:aV:=⟨fun fr x k=> @N4.rec T2 (fun _=>R) (fun a b c d=> @N4.rec T1 (fun _=>R) (fun e f g i=> @N4.rec X (fun _=>R) (fun p q r s=>k ⟨a,⟨e,f,⟨p,q,r,x⟩,i⟩,c,d⟩) g) b) fr⟩
def ak6:aV:=⟨fun fr x k=> @N4.rec T2 (fun _=>R) (fun a b c d=> @N4.rec T1 (fun _=>R) (fun e f g i=> @N4.rec X (fun _=>R) (fun p q r s=>k ⟨a,⟨e,f,g,⟨x,q,r,s⟩⟩,c,d⟩) i) b) fr⟩
def ak7:aV:=⟨fun fr x k=> @N4.rec T2 (fun _=>R) (fun a b c d=> @N4.rec T1 (fun _=>R) (fun e f g i=> @N4.rec X (fun _=>R) (fun p q r s=>k ⟨a,⟨e,f,g,⟨p,x,r,s⟩⟩,c,d⟩) i) b) fr⟩
def ak8:aV:=⟨fun fr x k=> @N4.rec T2 (fun _=>R) (fun a b c d=> @N4.rec T1 (fun _=>R) (fun e f g i=> @N4.rec X (fun _=>R) (fun p q r s=>k ⟨a,⟨e,f,g,⟨p,q,x,s⟩⟩,c,d⟩) i) b) fr⟩
def ak9:aV:=⟨fun fr x k=> @N4.rec T2 (fun _=>R) (fun a b c d=> @N4.rec T1 (fun _=>R) (fun e f g i=> @N4.rec X (fun _=>R) (fun p q r s=>k ⟨a,⟨e,f,g,⟨p,q,r,x⟩⟩,c,d⟩) i) b) fr⟩
def ala:aV:=⟨fun fr x k=> @N4.rec T2 (fun _=>R) (fun a b c d=> @N4.rec T1 (fun _=>R) (fun e f g i=> @N4.rec X (fun _=>R) (fun p q r s=>k ⟨a,b,⟨⟨x,q,r,s⟩,f,g,i⟩,d⟩) e) c) fr⟩
def alb:aV:=⟨fun fr x k=> @N4.rec T2 (fun _=>R) (fun a b c d=> @N4.rec T1 (fun _=>R) (fun e f g i=> @N4.rec X (fun _=>R) (fun p q r s=>k ⟨a,b,⟨⟨p,x,r,s⟩,f,g,i⟩,d⟩) e) c) fr⟩
def alc:aV:=⟨fun fr x k=> @N4.rec T2 (fun _=>R) (fun a b c d=> @N4.rec T1 (fun _=>R) (fun e f g i=> @N4.rec X (fun _=>R) (fun p q r s=>k ⟨a,b,⟨⟨p,q,x,s⟩,f,g,i⟩,d⟩) e) c) fr⟩
def ald:aV:=⟨fun fr x k=> @N4.rec T2 (fun _=>R) (fun a b c d=> @N4.rec T1 (fun _=>R) (fun e f g i=> @N4.rec X (fun _=>R) (fun p q r s=>k ⟨a,b,⟨⟨p,q,r,x⟩,f,g,i⟩,d⟩) e) c) fr⟩
def ale:aV:=⟨fun fr x k=> @N4.rec T2 (fun _=>R) (fun a b c d=> @N4.rec T1 (fun _=>R) (fun e f g i=> @N4.rec X (fun _=>R) (fun p q r s=>k ⟨a,b,⟨e,⟨x,q,r,s⟩,g,i⟩,d⟩) f) c) fr⟩
def alf:aV:=⟨fun fr x k=> @N4.rec T2 (fun _=>R) (fun a b c d=> @N4.rec T1 (fun _=>R) (fun e f g i=> @N4.rec X (fun _=>R) (fun p q r s=>k ⟨a,b,⟨e,⟨p,x,r,s⟩,g,i⟩,d⟩) f) c) fr⟩
def alg:aV:=⟨fun fr x k=> @N4.rec T2 (fun _=>R) (fun a b c d=> @N4.rec T1 (fun _=>R) (fun e f g i=> @N4.rec X (fun _=>R) (fun p q r s=>k ⟨a,b,⟨e,⟨p,q,x,s⟩,g,i⟩,d⟩) f) c) fr⟩
def alh:aV:=⟨fun fr x k=> @N4.rec T2 (fun _=>R) (fun a b c d=> @N4.rec T1 (fun _=>R) (fun e f g i=> @N4.rec X (fun _=>R) (fun p q r s=>k ⟨a,b,⟨e,⟨p,q,r,x⟩,g,i⟩,d⟩) f) c) fr⟩
def ali:aV:=⟨fun fr x k=> @N4.rec T2 (fun _=>R) (fun a b c d=> @N4.rec T1 (fun _=>R) (fun e f g i=> @N4.rec X (fun _=>R) (fun p q r s=>k ⟨a,b,⟨e,f,⟨x,q,r,s⟩,i⟩,d⟩) g) c) fr⟩
def alj:aV:=⟨fun fr x k=> @N4.rec T2 (fun _=>R) (fun a b c d=> @N4.rec T1 (fun _=>R) (fun e f g i=> @N4.rec X (fun _=>R) (fun p q r s=>k ⟨a,b,⟨e,f,⟨p,x,r,s⟩,i⟩,d⟩) g) c) fr⟩
def alk:aV:=⟨fun fr x k=> @N4.rec T2 (fun _=>R) (fun a b c d=> @N4.rec T1 (fun _=>R) (fun e f g i=> @N4.rec X (fun _=>R) (fun p q r s=>k ⟨a,b,⟨e,f,⟨p,q,x,s⟩,i⟩,d⟩) g) c) fr⟩
def alm:aV:=⟨fun fr x k=> @N4.rec T2 (fun _=>R) (fun a b c d=> @N4.rec T1 (fun _=>R) (fun e f g i=> @N4.rec X (fun _=>R) (fun p q r s=>k ⟨a,b,⟨e,f,⟨p,q,r,x⟩,i⟩,d⟩) g) c) fr⟩
def aln:aV:=⟨fun fr x k=> @N4.rec T2 (fun _=>R) (fun a b c d=> @N4.rec T1 (fun _=>R) (fun e f g i=> @N4.rec X (fun _=>R) (fun p q r s=>k ⟨a,b,⟨e,f,g,⟨x,q,r,s⟩⟩,d⟩) i) c) fr⟩
def alo:aV:=⟨fun fr x k=> @N4.rec T2 (fun _=>R) (fun a b c d=> @N4.rec T1 (fun _=>R) (fun e f g i=> @N4.rec X (fun _=>R) (fun p q r s=>k ⟨a,b,⟨e,f,g,⟨p,x,r,s⟩⟩,d⟩) i) c) fr⟩
def alp:aV:=⟨fun fr x k=> @N4.rec T2 (fun _=>R) (fun a b c d=> @N4.rec T1 (fun _=>R) (fun e f g i=> @N4.rec X (fun _=>R) (fun p q r s=>k ⟨a,b,⟨e,f,g,⟨p,q,x,s⟩⟩,d⟩) i) c) fr⟩
def alq:aV:=⟨fun fr x k=> @N4.rec T2 (fun _=>R) (fun a b c d=> @N4.rec T1 (fun _=>R) (fun e f g i=> @N4.rec X (fun _=>R) (fun p q r s=>k ⟨a,b,⟨e,f,g,⟨p,q,r,x⟩⟩,d⟩) i) c) fr⟩
def alr:aV:=⟨fun fr x k=> @N4.rec T2 (fun _=>R) (fun a b c d=> @N4.rec T1 (fun _=>R) (fun e f g i=> @N4.rec X (fun _=>R) (fun p q r s=>k ⟨a,b,c,⟨⟨x,q,r,s⟩,f,g,i⟩⟩) e) d) fr⟩
def als:aV:=⟨fun fr x k=> @N4.rec T2 (fun _=>R) (fun a b c d=> @N4.rec T1 (fun _=>R) (fun e f g i=> @N4.rec X (fun _=>R) (fun p q r s=>k ⟨a,b,c,⟨⟨p,x,r,s⟩,f,g,i⟩⟩) e) d) fr⟩
def alu:aV:=⟨fun fr x k=> @N4.rec T2 (fun _=>R) (fun a b c d=> @N4.rec T1 (fun _=>R) (fun e f g i=> @N4.rec X (fun _=>R) (fun p q r s=>k ⟨a,b,c,⟨⟨p,q,x,s⟩,f,g,i⟩⟩) e) d) fr⟩
def alv:aV:=⟨fun fr x k=> @N4.rec T2 (fun _=>R) (fun a b c d=> @N4.rec T1 (fun _=>R) (fun e f g i=> @N4.rec X (fun _=>R) (fun p q r s=>k ⟨a,b,c,⟨⟨p,q,r,x⟩,f,g,i⟩⟩) e) d) fr⟩
def alx:aV:=⟨fun fr x k=> @N4.rec T2 (fun _=>R) (fun a b c d=> @N4.rec T1 (fun _=>R) (fun e f g i=> @N4.rec X (fun _=>R) (fun p q r s=>k ⟨a,b,c,⟨e,⟨x,q,r,s⟩,g,i⟩⟩) f) d) fr⟩
def aly:aV:=⟨fun fr x k=> @N4.rec T2 (fun _=>R) (fun a b c d=> @N4.rec T1 (fun _=>R) (fun e f g i=> @N4.rec X (fun _=>R) (fun p q r s=>k ⟨a,b,c,⟨e,⟨p,x,r,s⟩,g,i⟩⟩) f) d) fr⟩
def alz:aV:=⟨fun fr x k=> @N4.rec T2 (fun _=>R) (fun a b c d=> @N4.rec T1 (fun _=>R) (fun e f g i=> @N4.rec X (fun _=>R) (fun p q r s=>k ⟨a,b,c,⟨e,⟨p,q,x,s⟩,g,i⟩⟩) f) d) fr⟩
def alA:aV:=⟨fun fr x k=> @N4.rec T2 (fun _=>R) (fun a b c d=> @N4.rec T1 (fun _=>R) (fun e f g i=> @N4.rec X (fun _=>R) (fun p q r s=>k ⟨a,b,c,⟨e,⟨p,q,r,x⟩,g,i⟩⟩) f) d) fr⟩
def alB:aV:=⟨fun fr x k=> @N4.rec T2 (fun _=>R) (fun a b c d=> @N4.rec T1 (fun _=>R) (fun e f g i=> @N4.rec X (fun _=>R) (fun p q r s=>k ⟨a,b,c,⟨e,f,⟨x,q,r,s⟩,i⟩⟩) g) d) fr⟩
def alC:aV:=⟨fun fr x k=> @N4.rec T2 (fun _=>R) (fun a b c d=> @N4.rec T1 (fun _=>R) (fun e f g i=> @N4.rec X (fun _=>R) (fun p q r s=>k ⟨a,b,c,⟨e,f,⟨p,x,r,s⟩,i⟩⟩) g) d) fr⟩
def alD:aV:=⟨fun fr x k=> @N4.rec T2 (fun _=>R) (fun a b c d=> @N4.rec T1 (fun _=>R) (fun e f g i=> @N4.rec X (fun _=>R) (fun p q r s=>k ⟨a,b,c,⟨e,f,⟨p,q,x,s⟩,i⟩⟩) g) d) fr⟩
def alE:aV:=⟨fun fr x k=> @N4.rec T2 (fun _=>R) (fun a b c d=> @N4.rec T1 (fun _=>R) (fun e f g i=> @N4.rec X (fun _=>R) (fun p q r s=>k ⟨a,b,c,⟨e,f,⟨p,q,r,x⟩,i⟩⟩) g) d) fr⟩
def alF:aV:=⟨fun fr x k=> @N4.rec T2 (fun _=>R) (fun a b c d=> @N4.rec T1 (fun _=>R) (fun e f g i=> @N4.rec X (fun _=>R) (fun p q r s=>k ⟨a,b,c,⟨e,f,g,⟨x,q,r,s⟩⟩⟩) i) d) fr⟩
def alG:aV:=⟨fun fr x k=> @N4.rec T2 (fun _=>R) (fun a b c d=> @N4.rec T1 (fun _=>R) (fun e f g i=> @N4.rec X (fun _=>R) (fun p q r s=>k ⟨a,b,c,⟨e,f,g,⟨p,x,r,s⟩⟩⟩) i) d) fr⟩
def alH:aV:=⟨fun fr x k=> @N4.rec T2 (fun _=>R) (fun a b c d=> @N4.rec T1 (fun _=>R) (fun e f g i=> @N4.rec X (fun _=>R) (fun p q r s=>k ⟨a,b,c,⟨e,f,g,⟨p,q,x,s⟩⟩⟩) i) d) fr⟩
def alI:aV:=⟨fun fr x k=> @N4.rec T2 (fun _=>R) (fun a b c d=> @N4.rec T1 (fun _=>R) (fun e f g i=> @N4.rec X (fun _=>R) (fun p q r s=>k ⟨a,b,c,⟨e,f,g,⟨p,q,r,x⟩⟩⟩) i) d) fr⟩
def KD (j:Nat):aV:=(cnd (Nat.blt j 32) (cnd (Nat.blt j 16) (cnd (Nat.blt j 8) (cnd (Nat.blt j 4) (cnd (Nat.blt j 2) (cnd (Nat.blt j 1) pS0 pS1) (cnd (Nat.blt j 3) pS2 pS3)) (cnd (Nat.blt j 6) (cnd (Nat.blt j 5) pS4 pS5) (cnd (Nat.blt j 7) pS6 pS7))) (cnd (Nat.blt j 12) (cnd (Nat.blt j 10) (cnd (Nat.blt j 9) pS8 pS9) (cnd (Nat.blt j 11) akO akP)) (cnd (Nat.blt j 14) (cnd (Nat.blt j 13) akQ akR) (cnd (Nat.blt j 15) akS akT)))) (cnd (Nat.blt j 24) (cnd (Nat.blt j 20) (cnd (Nat.blt j 18) (cnd (Nat.blt j 17) akU akV) (cnd (Nat.blt j 19) akW akX)) (cnd (Nat.blt j 22) (cnd (Nat.blt j 21) akY akZ) (cnd (Nat.blt j 23) ak0 ak1))) (cnd (Nat.blt j 28) (cnd (Nat.blt j 26) (cnd (Nat.blt j 25) ak2 ak3) (cnd (Nat.blt j 27) ak4 ak5)) (cnd (Nat.blt j 30) (cnd (Nat.blt j 29) ak6 ak7) (cnd (Nat.blt j 31) ak8 ak9))))) (cnd (Nat.blt j 48) (cnd (Nat.blt j 40) (cnd (Nat.blt j 36) (cnd (Nat.blt j 34) (cnd (Nat.blt j 33) ala alb) (cnd (Nat.blt j 35) alc ald)) (cnd (Nat.blt j 38) (cnd (Nat.blt j 37) ale alf) (cnd (Nat.blt j 39) alg alh))) (cnd (Nat.blt j 44) (cnd (Nat.blt j 42) (cnd (Nat.blt j 41) ali alj) (cnd (Nat.blt j 43) alk alm)) (cnd (Nat.blt j 46) (cnd (Nat.blt j 45) aln alo) (cnd (Nat.blt j 47) alp alq)))) (cnd (Nat.blt j 56) (cnd (Nat.blt j 52) (cnd (Nat.blt j 50) (cnd (Nat.blt j 49) alr als) (cnd (Nat.blt j 51) alu alv)) (cnd (Nat.blt j 54) (cnd (Nat.blt j 53) alx aly) (cnd (Nat.blt j 55) alz alA))) (cnd (Nat.blt j 60) (cnd (Nat.blt j 58) (cnd (Nat.blt j 57) alB alC) (cnd (Nat.blt j 59) alD alE)) (cnd (Nat.blt j 62) (cnd (Nat.blt j 61) alF alG) (cnd (Nat.blt j 63) alH alI))))))
theorem alJ {j:Nat} (h:j<64) (fr:T3) (x:X) (k:T3->R):(KD j).f fr x k=k (eP.pt fr j x):=by
 obtain ⟨⟨⟨_,_,_,_⟩,⟨_,_,_,_⟩,⟨_,_,_,_⟩,⟨_,_,_,_⟩⟩,⟨⟨_,_,_,_⟩,⟨_,_,_,_⟩,⟨_,_,_,_⟩,⟨_,_,_,_⟩⟩,⟨⟨_,_,_,_⟩,⟨_,_,_,_⟩,⟨_,_,_,_⟩,⟨_,_,_,_⟩⟩,⟨⟨_,_,_,_⟩,⟨_,_,_,_⟩,⟨_,_,_,_⟩,⟨_,_,_,_⟩⟩⟩:=fr
 match j,h with
 |0,_=>rfl
 |1,_=>rfl
 |2,_=>rfl
 |3,_=>rfl
 |4,_=>rfl
 |5,_=>rfl
 |6,_=>rfl
 |7,_=>rfl
 |8,_=>rfl
 |9,_=>rfl
 |10,_=>rfl
 |11,_=>rfl
 |12,_=>rfl
 |13,_=>rfl
 |14,_=>rfl
 |15,_=>rfl
 |16,_=>rfl
 |17,_=>rfl
 |18,_=>rfl
 |19,_=>rfl
 |20,_=>rfl
 |21,_=>rfl
 |22,_=>rfl
 |23,_=>rfl
 |24,_=>rfl
 |25,_=>rfl
 |26,_=>rfl
 |27,_=>rfl
 |28,_=>rfl
 |29,_=>rfl
 |30,_=>rfl
 |31,_=>rfl
 |32,_=>rfl
 |33,_=>rfl
 |34,_=>rfl
 |35,_=>rfl
 |36,_=>rfl
 |37,_=>rfl
 |38,_=>rfl
 |39,_=>rfl
 |40,_=>rfl
 |41,_=>rfl
 |42,_=>rfl
 |43,_=>rfl
 |44,_=>rfl
 |45,_=>rfl
 |46,_=>rfl
 |47,_=>rfl
 |48,_=>rfl
 |49,_=>rfl
 |50,_=>rfl
 |51,_=>rfl
 |52,_=>rfl
 |53,_=>rfl
 |54,_=>rfl
 |55,_=>rfl
 |56,_=>rfl
 |57,_=>rfl
 |58,_=>rfl
 |59,_=>rfl
 |60,_=>rfl
 |61,_=>rfl
 |62,_=>rfl
 |63,_=>rfl
 |n+64,h=>exact absurd h (by omega)
structure QY where
 f:FX->Loc->FX->(FX->R)->R
def Fh (n:Nat) (ws:List (Nat×D)):QY:= @List.rec (Nat×D) (fun _=>QY) ⟨fun _ _ fr k=>k fr⟩ (fun w _ ih=>⟨fun fr l fr' k=>(KD w.1).f fr' ((ko n w.2).g fr l) fun fr'=>ih.f fr l fr' k⟩) ws
def tQ (d:D) (j:Nat):Bool:=match d with
 | .slot i=>Nat.beq i j
 |_=>false
def KE (cx:Cx) (en:En):List (Nat×D):=(@List.rec Nat (fun _=>Nat->List (Nat×D)) (fun _=>[]) (fun k _ ih j=>oD (cnd (mem cx.PV k) (lk en.C k) (lk en.T k)) (ih (Nat.succ j)) fun d=>cnd (tQ d j) (ih (Nat.succ j)) ((j,d)::ih (Nat.succ j))) cx.G 0)
def iq (cx:Cx) (e:Nat) (en:En):FR:=⟨fun fr l h k=>(Fh en.n (KE cx en)).f fr l fr fun fr=>k e fr h⟩
def xR (cx:Cx) (kn:En->FR) (ops:List OL):En->FR:= @List.rec OL (fun _=>En->FR) kn (fun o _ ih en=>plan o.op cx o en ih) ops
def en0:En:=⟨[],[],[],0⟩
def ja (acc:List Nat):List (List Nat)->List Nat
 |[]=>acc
 |af::l=>ja (acc++[af.foldl (fun s e=>s|||(2 ^ e|||acc.getD e 0)) 0]) l
def bZ:Operand->List Nat
 | .tmp k=>[k]
 |_=>[]
def aO:SOp->List Operand
 | .jL x=>[x]
 | .pick c a b=>[c,a,b]
 | .box x=>[x]
 | .build _ ps=>ps.map fun p=>p.2.2
 | .iJ _ _ _ _ ps=>ps.map fun p=>p.2
 | .load _ _ x=>[x]
 | .store _ x y=>[x,y]
 | .jM x=>[x]
 | .bin _ x y=>[x,y]
 | .eqs _ _ x y=>[x,y]
 | .jN _ x y=>[x,y]
 | .oM _ x=>[x]
 | .un _ x=>[x]
 | .conv _ x=>[x]
 | .rZ _ x=>[x]
 | .lg x=>[x]
 | .nJ _ cs=>cs
 | .yB _ cs=>cs
 | .look _ m k=>[m,k]
 | .um _ m k=>[m,k]
 | .jO m k x=>[m,k,x]
 | .lX _ _ _ _ l c=>[l,c]
 | .slice _ x lo hi mx=>x::(lo.toList++(hi.toList++mx.toList))
 | .nK x lo hi=>x::(lo.toList++hi.toList)
 | .uo _ _ x=>[x]
 | .jP _ x=>[x]
 | .nL _ _ _ x=>[x]
 | .lY _ x i=>[x,i]
 | .lZ _ _ x i=>[x,i]
 | .idx _ _ _ x i=>[x,i]
 | .idxs x i=>[x,i]
 | .len x=>[x]
 | .nM x=>[x]
 | .cap x=>[x]
 | .app _ _ _ _ s x=>[s,x]
 | .lm _ _ _ _ s x=>[s,x]
 | .lq _ _ x=>[x]
 | .copy _ x y=>[x,y]
 | .ext _ x=>[x]
 | .l5 _ xs=>xs
 | .call f args=>f::args
 |_=>[]
def varOf (al:List (Nat×Nat)) (PV:List Nat) (x:Operand):Option Nat:=match x with
 | .tmp k=>match lk al k with
  |some p=>some p
  |none=>cnd (mem PV k) (some k) none
 |_=>none
def aliases (PV:List Nat):List SOper->List (Nat×Nat)->List (Nat×Nat)
 |[],al=>al
 |o::l,al=>match o.dst,o.op with
  |some d,.jP _ x=>match varOf al PV x with
   |some p=>aliases PV l ((d,p)::al)
   |none=>aliases PV l al
  |some d,.jM x=>match varOf al PV x with
   |some p=>aliases PV l ((d,p)::al)
   |none=>aliases PV l al
  |some d,.jL x=>match varOf al PV x with
   |some p=>aliases PV l ((d,p)::al)
   |none=>aliases PV l al
  |_,_=>aliases PV l al
def looks (o:SOper):List Nat:=(match o.guard with
 |some (g,_)=>[g]
 |none=>[])++(aO o.op).flatMap bZ
def gG:SOp->Nat
 | .alloc _=>2
 | .box _=>2
 | .iJ _ _ _ _ _=>2
 | .lX _ _ _ _ _ _=>2
 | .oN=>2
 | .lm _ _ _ _ _ _=>2
 | .load _ _ _=>1
 | .look _ _ _=>1
 | .um _ _ _=>1
 | .lg _=>1
 | .slice _ _ _ _ _=>1
 | .cap _=>1
 | .uo _ _ _=>1
 | .store _ _ _=>3
 | .lq _ _ _=>3
 | .copy _ _ _=>3
 | .jO _ _ _=>3
 | .app _ _ _ _ _ _=>4
 | .call _ _=>4
 |_=>0
structure Rs where
 c:Nat
 u:List Nat
 d:List Nat
def dF (al:List (Nat×Nat)) (PV:List Nat) (o:SOper):Rs:=match o.op with
 | .load _ _ x=>match varOf al PV x with
  |some p=>⟨0,(1000000+p)::looks o,o.dst.toList⟩
  |none=>⟨1,looks o,o.dst.toList⟩
 | .store _ x _=>match varOf al PV x with
  |some p=>⟨0,(1000000+p)::looks o,(1000000+p)::o.dst.toList⟩
  |none=>⟨3,looks o,o.dst.toList⟩
 | .alloc _=>match o.dst with
  |some d=>cnd (mem PV d) ⟨0,looks o,[d,1000000+d]⟩ ⟨2,looks o,[d]⟩
  |none=>⟨2,looks o,[]⟩
 | .box _=>match o.dst with
  |some d=>cnd (mem PV d) ⟨0,looks o,[d,1000000+d]⟩ ⟨2,looks o,[d]⟩
  |none=>⟨2,looks o,[]⟩
 |op=>⟨gG op,looks o,o.dst.toList⟩
def CF (x y:Rs):Bool:=x.d.all (fun d=> !(y.u.contains d)&& !(y.d.contains d))&&y.d.all (fun d=> !(x.u.contains d))
def Fj (x y:Rs):Bool:=Nat.beq x.c 0||(Nat.beq y.c 0||(Nat.blt x.c 3&&Nat.blt y.c 3||(Nat.beq x.c 4&&Nat.blt y.c 3||Nat.beq y.c 4&&Nat.blt x.c 3)))
def p9 (op:SOp):Bool:=match op with
 | .iJ _ _ _ _ _=>true
 |_=>false
def QZ (rs:List Rs) (jQ:List Nat) (ops:List SOper):Bool:=
 (ops.zip rs).zipIdx.all fun p=>p.1.1.after.all (fun e=>Nat.blt e p.2)&&rs.zipIdx.all fun q=> !(Nat.blt q.2 p.2)||((jQ.getD p.2 0).testBit q.2||(CF q.1 p.1.2&&(Fj q.1 p.1.2||p9 p.1.1.op)))
def ni (al:List (Nat×Nat)) (PV:List Nat) (op:SOp):Option Nat:=match op with
 | .load _ _ x=>varOf al PV x
 | .store _ x _=>varOf al PV x
 | .jL x=>varOf al PV x
 | .jP _ x=>varOf al PV x
 | .jM x=>varOf al PV x
 |_=>none
def kV (FL:List Nat) (o:SOper):Bool:= @Option.rec Nat (fun _=>Bool) false (fun d=>mem FL d) o.dst
def KF (FL:List Nat) (ops:List SOper):List OL:=ops.map fun o=>⟨o.dst,o.op,o.guard,kV FL o,none⟩
def Fp (al:List (Nat×Nat)) (PV FL:List Nat) (ops:List SOper):List OL:=ops.map fun o=>⟨o.dst,o.op,o.guard,kV FL o,some (ni al PV o.op)⟩
def Q0 (rs:List Rs) (jQ:List Nat) (FL:List Nat) (ops:List SOper):Bool:=
 (ops.zip rs).zipIdx.all fun p=> !(Nat.beq p.1.2.c 4)||kV FL p.1.1||(ops.zip rs).zipIdx.all fun q=>Nat.beq q.1.2.c 0||Nat.beq p.2 q.2||(jQ.getD (max p.2 q.2) 0).testBit (min p.2 q.2)||(p9 q.1.1.op&&Nat.blt p.2 q.2)
def ow (op:SOp):Bool:=match op with
 | .alloc _=>true
 | .box _=>true
 |_=>false
def KG (op:SOp):Bool:=match op with
 | .store _ _ _=>true
 |_=>false
def okD (nt:Nat) (PV:List Nat) (draw:Bool) (o:SOper):Bool:= @Option.rec Nat (fun _=>Bool) true (fun d=>Nat.blt d nt&&((!(mem PV d)||ow o.op)&& !(KG o.op))) o.dst
def isV (o:Option Nat) (d:Nat):Bool:=match o with
 |some p=>Nat.beq p d
 |none=>false
def Bu (al:List (Nat×Nat)) (PV:List Nat) (jQ:List Nat) (ops:List SOper):Bool:=
 ops.zipIdx.all fun p=> !(ow p.1.op)|| @Option.rec Nat (fun _=>Bool) true (fun d=> !(mem PV d)||ops.zipIdx.all fun q=>Nat.beq q.2 p.2||(!(isV (ni al PV q.1.op) d)||(Nat.blt p.2 q.2&&(jQ.getD q.2 0).testBit p.2))) p.1.dst
def iL (PV FL:List Nat) (ops:List SOper):Bool:=
 let jQ:=ja [] (ops.map (·.after))
 let rs:=ops.map (dF (aliases PV ops []) PV)
 QZ rs jQ ops&&(Q0 rs jQ FL ops&&Bu (aliases PV ops []) PV jQ ops)
def jo (nt:Nat) (PV FL:List Nat) (c:SCode):Bool:=match c with
 | .region ops draw=>(ops.all fun o=>okD nt PV draw o)&&(!draw||iL PV FL ops)
 | .seq a b=>jo nt PV FL a&&jo nt PV FL b
 | .cond _ a b=>jo nt PV FL a&&jo nt PV FL b
 | .block _ c=>jo nt PV FL c
 | .loop c=>jo nt PV FL c
 |_=>true
def CG:Nat:=100000
def Ab (c:SCode):Bool:= @SCode.rec (fun _=>Bool) false (fun _ _=>false) (fun _ _ a b=>cnd a true b) (fun _ _ _ a b=>cnd a b false) (fun _ _ _=>false) (fun _ _=>false) (fun _=>true) true c
def Fq (c:FR) (n:Nat):FR:= @Nat.rec (fun _=>FR) bM (fun _ ih=>⟨fun fr _ h k=>c.f fr [] h fun e fr h=>ah (Nat.beq e 0) (ih.f fr [] h k) (k e fr h)⟩) n
def Q5 (a:Ac) (x y z:FR):FR:=⟨fun fr l h k=>aJ (a.g fr l).n fun n=>ah (Nat.beq n 33) (x.f fr l h fun e fr h=>ah (Nat.beq e 0) (z.f fr [] h k) (k e fr h)) (ah (Nat.beq n 1) (y.f fr l h fun e fr h=>ah (Nat.beq e 0) (z.f fr [] h k) (k e fr h)) none)⟩
def CJ (a:Ac) (x y:FR):FR:=⟨fun fr l h k=>aJ (a.g fr l).n fun n=>ah (Nat.beq n 33) (x.f fr l h k) (ah (Nat.beq n 1) (y.f fr l h k) none)⟩
abbrev Cm:=En->(En->FR)->FR
def CK (en:En):En:=⟨en.T,[],en.C,en.n⟩
def jq (cx:Cx) (c:SCode):Cm:= @SCode.rec (fun _=>Cm) (fun en kn=>kn en) (fun ops draw en kn=>cnd draw (xR cx kn (Fp (aliases cx.PV ops []) cx.PV cx.FL ops) (CK en)) (xR cx kn (KF cx.FL ops) en)) (fun _ _ a b en kn=>a en fun en=>b en kn)
 (fun c x y a b en kn=>oR (bN cx en c) fun t=>cnd (Ab x) (CJ t (a en fun _=>bM) (b en kn)) (cnd (Ab y) (CJ t (a en kn) (b en fun _=>bM)) (Q5 t (a en (iq cx 0)) (b en (iq cx 0)) (kn en0))))
 (fun id _ a en kn=>⟨fun fr l h k=>(a en (iq cx 0)).f fr l h fun e fr h=>ah (Nat.beq e 0) ((kn en0).f fr [] h k) (ah (Nat.beq e (Nat.add id 2)) ((kn en0).f fr [] h k) (k e fr h))⟩)
 (fun _ a en _=>⟨fun fr l h k=>(iq cx 0 en).f fr l h fun _ fr h=>(Fq (a en0 (iq cx 0)) cx.fu).f fr [] h k⟩)
 (fun id en _=>iq cx (Nat.add id 2) en) (fun en _=>iq cx 1 en) c
inductive fP where
 |tmp (k:Nat)
 |cell (k:Nat) (ag:Bool) (sz:Nat)
structure ayz where
 f:List X->(List X->FX->R)->R
def f4 {α:Type} (x:α):N4 α:=⟨x,x,x,x⟩
def kr:FX:=f4 (f4 (f4 xU))
structure Q6 where
 g:List X->X
def Q7 (i:Nat):Q6:= @Nat.rec (fun _=>Q6) ⟨fun l=>eD l rM fun x _=>x⟩ (fun _ ih=>⟨fun l=>eD l rM fun _ t=>ih.g t⟩) i
structure FrT where
 g:List X->FX
def g1 (n i:Nat) (xs:List X):X:=cnd (Nat.blt i n) ((Q7 i).g xs) xU
def nk (n:Nat):FrT:=cnd (Nat.ble n 4) ⟨fun xs=>⟨⟨⟨g1 n 0 xs,g1 n 1 xs,g1 n 2 xs,g1 n 3 xs⟩,f4 xU,f4 xU,f4 xU⟩,f4 (f4 xU),f4 (f4 xU),f4 (f4 xU)⟩⟩
 (cnd (Nat.ble n 8) ⟨fun xs=>⟨⟨⟨g1 n 0 xs,g1 n 1 xs,g1 n 2 xs,g1 n 3 xs⟩,⟨g1 n 4 xs,g1 n 5 xs,g1 n 6 xs,g1 n 7 xs⟩,f4 xU,f4 xU⟩,f4 (f4 xU),f4 (f4 xU),f4 (f4 xU)⟩⟩ ⟨fun _=>kr⟩)
structure iV where
 f:FX->Hp->(List X->R)->R
def iW (cx:Cx) (l:List fP):iV:= @List.rec fP (fun _=>iV) ⟨fun _ _ k=>k []⟩ (fun r _ ih=> @fP.rec (fun _=>iV)
 (fun t=> @Option.rec Nat (fun _=>iV) ⟨fun _ _ _=>none⟩ (fun j=>⟨fun fr h k=>opn ((eP.get j).g fr) fun a m o=>ih.f fr h fun xs=>k (⟨a,m,o⟩::xs)⟩) (cnd (mem cx.PV t) none (ix cx.G t)))
 (fun t ag sz=> @Option.rec Nat (fun _=>iV) ⟨fun _ _ _=>none⟩ (fun j=>cnd (mem cx.PV t) ⟨fun fr h k=>aJ ((eP.get j).g fr).n fun m=>ah (Nat.beq m 14) none (ou ag 0 sz ((eP.get j).g fr) h fun x _=>ih.f fr h fun xs=>k (x::xs))⟩
  ⟨fun _ _ _=>none⟩) (ix cx.G t)) r) l
structure ai where
 G:List Nat
 PV:List Nat
 FL:List Nat
 na:Nat
 sc:SCode
 res:List fP
 Fs:Nat
def Fu:Nat->Nat->List Nat->Bool
 |0,_,_=>true
 |n+1,j,G=>match G with
  |[]=>false
  |g::G=>Nat.beq g j&&Fu n (j+1) G
def nodupB:List Nat->Bool
 |[]=>true
 |x::l=> !(mem l x)&&nodupB l
def okF (F:ai):Bool:=Fu F.na 0 F.G&&(nodupB F.G&&(Nat.ble F.G.length 64&&(Nat.ble F.na 8&&F.PV.all fun p=>Nat.ble F.na p)))
def rO (cl:Nat->FC) (F:ai):FC:=cnd (okF F)
 ⟨fun xs h k=>ah (Nat.beq (di xs) F.na) ((jq ⟨cl,F.G,F.PV,F.FL,CG⟩ F.sc en0 (iq ⟨cl,F.G,F.PV,F.FL,CG⟩ 0)).f ((nk F.na).g xs) [] h fun e fr h=>ah (Nat.ble e 1) ((iW ⟨cl,F.G,F.PV,F.FL,CG⟩ F.res).f fr h fun ys=>eD ys (k ⟨3,[],oZ⟩ h) fun y t=>eD t (k y h) fun _ _=>k ⟨3,ys,oZ⟩ h) none) none⟩ J8
def Fv (a l:Nat):Bool:=cnd (Nat.beq (Nat.mod a 64) l) true (Nat.beq (Nat.div a 64) l)
def xS:T8:=f4 (f4 (f4 (f4 (f4 (f4 (f4 (f4 (aK 0))))))))
def h0 (q:List X):Hp:=⟨0,0,xS,[],q⟩
end
end Go.M
namespace Go.M
open Go
noncomputable section
variable [aY]
theorem KH {x:X} {k:Nat->R} {r} (e:Cw x k=some r):(x.n % 32=0\/x.n % 32=4)/\k x.n=some r:=by
 have e':ah (Nat.beq (Nat.land x.n 31) 0) (k x.n) (ah (Nat.beq (Nat.land x.n 31) 4) (k x.n) none)=some r:=by
  have:=e
  unfold Cw at this
  simpa only [mI] using this
 rcases aF e' with ⟨t,e1⟩|⟨_,e1⟩
 ·exact ⟨.inl (bJ t),e1⟩
 ·obtain ⟨t,e2⟩:=aI e1
  exact ⟨.inr (bJ t),e2⟩
theorem Fw {V:Vw} {m n:Nat} {u v:Value} (ht:n % 32=0\/n % 32=4) (hk:Nat.beq (Nat.land m (kM n)) (Nat.land n (kM n))=true) (hu:den V ⟨m,[],oZ⟩ u) (hv:den V ⟨n,[],oZ⟩ v):
  ∃ q a b,u= .int q a/\v= .int q b/\(m=n↔a=b):=by
 have hk:=aC hk
 rcases ht with ht|ht
 ·have hM:kM n=31:=by unfold kM;rw [jD,ht];rfl
  rw [hM,jD,jD,ht] at hk
  refine ⟨_,_,_,(dO (x:=⟨m,[],oZ⟩) hk).1 hu,(dO (x:=⟨n,[],oZ⟩) ht).1 hv,?_⟩
  show m=n↔Int.ofNat (m / 32)=Int.ofNat (n / 32)
  constructor
  ·rintro rfl;rfl
  ·intro h;have h:=Int.ofNat.inj h;omega
 ·have hM:kM n=511:=by unfold kM;rw [jD,ht];rfl
  have l9:∀ a,Nat.land a 511=a % 512:=fun a=>Nat.and_two_pow_sub_one_eq_mod a 9
  rw [hM,l9,l9] at hk
  have h4:m % 32=4:=by omega
  have h1:=(oh (x:=⟨m,[],oZ⟩) h4).1 hu
  have h2:=(oh (x:=⟨n,[],oZ⟩) ht).1 hv
  simp only at h1 h2
  rw [show m / 32 % 16=n / 32 % 16 by omega] at h1
  refine ⟨_,_,_,h1,h2,?_⟩
  constructor
  ·rintro rfl;rfl
  ·intro h;have h:=Int.ofNat.inj h;omega
theorem KI:∀ {es:List X} {n:Nat} {f:X->R} {z:R} {r},(n % 32=0\/n % 32=4)->E9 es n f z=some r->
  (z=some r/\∀ V aH kk i0 v,iE V es aH->den V ⟨n,[],oZ⟩ v->Instr.findNow (.int kk) v aH i0=some none)\/
  (∃ c,f c=some r/\∀ V aH kk i0 v,iE V es aH->den V ⟨n,[],oZ⟩ v->∃ i u,Instr.findNow (.int kk) v aH i0=some (some (i,u))/\den V c u)
 |[],n,f,z,r,ht,e=> .inl ⟨e,fun V aH kk i0 v he _=>by
  have:aH=[]:=he
  subst this;rfl⟩
 |x::es,n,f,z,r,ht,e=>by
  have e0:ah (Nat.beq (Nat.land x.n (kM n)) (Nat.land n (kM n))) (ah (Nat.beq x.n n) (eD x.l none fun c _=>f c) (E9 es n f z)) none=some r:=e
  obtain ⟨t,e1⟩:=aI e0
  rcases aF e1 with ⟨t1,e2⟩|⟨t1,e2⟩
  ·have t1:=aC t1
   cases hl:x.l with
   |nil=>rw [hl] at e2;cases e2
   |cons c tl=>
    rw [hl] at e2
    refine .inr ⟨c,e2,fun V aH kk i0 v he hv=> ?_⟩
    obtain ⟨m,rest,c',rfl,hc,hkey,_,hval,_⟩:=he
    rw [hl] at hc
    cases hc
    obtain ⟨q,a,b,h1,h2,h3⟩:=Fw ht t hkey hv
    have hab:=h3.1 t1
    subst hab
    exact ⟨i0,m.val,by rw [h2];simp [Instr.findNow,h1,Instr.sameNow],hval⟩
  ·have t1:=gq t1
   have bS:∀ V aH kk i0 v,iE V (x::es) aH->den V ⟨n,[],oZ⟩ v->∃ m rest,aH=m::rest/\iE V es rest/\Instr.findNow (.int kk) v aH i0=Instr.findNow (.int kk) v rest (i0+1):=fun V aH kk i0 v he hv=>by
    obtain ⟨m,rest,c',rfl,hc,hkey,_,hval,hE⟩:=he
    obtain ⟨q,a,b,h1,h2,h3⟩:=Fw ht t hkey hv
    have hab:¬ b=a:=fun h=>t1 (h3.2 h.symm)
    have hb:(b==a)=false:=by simp [hab]
    exact ⟨m,rest,rfl,hE,by rw [h2];simp [Instr.findNow,h1,Instr.sameNow,hb]⟩
   rcases KI ht e2 with ⟨h1,h2⟩|⟨c,h1,h2⟩
   ·refine .inl ⟨h1,fun V aH kk i0 v he hv=> ?_⟩
    obtain ⟨m,rest,_,hE,h5⟩:=bS V aH kk i0 v he hv
    rw [h5];exact h2 V rest kk _ v hE hv
   ·refine .inr ⟨c,h1,fun V aH kk i0 v he hv=> ?_⟩
    obtain ⟨m,rest,_,hE,h5⟩:=bS V aH kk i0 v he hv
    rw [h5];exact h2 V rest kk _ v hE hv
section
variable {P:Program} {fl:Nat} {o:Oper} {h:Hp}
theorem KJ {m:X} {k:Nat->List X->R} {r} (e:vF m h k=some r):m.n % 32=10/\∃ es,(gH h (m.n / 32)).n=3/\(gH h (m.n / 32)).l=es/\k (m.n / 32) es=some r:=by
 have e':ah (Nat.beq (Nat.land m.n 31) 10) (JH (Nat.shiftRight m.n 5) h fun bn es=>ah (Nat.beq bn 3) (k (Nat.shiftRight m.n 5) es) none) none=some r:=by
  have:=e
  unfold vF at this
  simpa only [mI] using this
 obtain ⟨t,e1⟩:=aI e'
 rw [show Nat.shiftRight m.n 5=m.n / 32 from shr _ 5] at e1
 have e2:opn (gH h (m.n / 32)) (fun bn es _=>ah (Nat.beq bn 3) (k (m.n / 32) es) none)=some r:=e1
 rw [fo] at e2
 obtain ⟨t2,e3⟩:=aI e2
 exact ⟨bJ t,_,aC t2,rfl,e3⟩
theorem MR.map {w0:World} {V:Vw} {w:World} {b:Nat} (hm:MR w0 V h w) (hb:V.S b) (h3:(gH h b).n=3):∃ aH clock,w.heap[V.ρ b]? =some (.map aH clock)/\iE V (gH h b).l aH.toList:=by
 have:=hm.bl b hb
 unfold bH at this
 rw [h3] at this
 exact this
theorem CO {V:Vw} {y:X} {u:Value} (ht:y.n % 32=0\/y.n % 32=4) (hd:den V y u):den V ⟨y.n,[],oZ⟩ u/\∃ q n,u= .int q n:=by
 rcases ht with ht|ht
 ·have:=(dO ht).1 hd
  exact ⟨(dO (x:=⟨y.n,[],oZ⟩) ht).2 this,_,_,this⟩
 ·have:=(oh ht).1 hd
  exact ⟨(oh (x:=⟨y.n,[],oZ⟩) ht).2 this,_,_,this⟩
theorem alM {ty kt et:TypeId} {kk:IntKind} {z:Value} {m k':Operand} {x y:X} (h1:P.underlying ty=some (.map kt et)) (h2:P.underlying kt=some (.int kk))
  (hza:∃ i,P.info? et=some i/\i.zero=some z) (hz1:one z) (ho:o.op= .lookup ty m k' false):ig P fl o [(m,x),(k',y)] h (QR (dK z) x y):=fun k r e=>by
 obtain ⟨t,es,g3,rfl,e1⟩:=KJ (show vF x h _=some r from e)
 obtain ⟨ht,e2⟩:=KH e1
 obtain ⟨i,hi,hiz⟩:=hza
 have pre:∀ (ev:Operand->Value) (w:World) g aH clock q n res,ev m= .map (some g)->ev k'= .int q n->w.heap[g]? =some (.map aH clock)->Instr.findNow (.int kk) (.int q n) aH.toList 0=some res->
   (execOp ev o).run P w= .ok (.value (match res with|some (_,v)=>v|none=>z)) w:=fun ev w g aH clock q n res hmr hkv hg hres=>by
  simp only [execOp,ho,hmr,hkv,Instr.lookup,Sem.run_bind,run_underlying h1,Result.andThen_ok,Go.Eng.qp hg,Sem.run_pure,Go.Eng.run_checkKey h2,Instr.findKey,run_underlying h2,hres]
  cases res with
  |none=>simp [zeroValue,typeInfo,hi,hiz]
  |some p=>simp
 rcases KI ht e2 with ⟨e3,hf⟩|⟨c,e3,hf⟩
 ·refine ⟨_,h,e3,.refl _ _,fun _ w0 V w ev hm hd _=> ?_⟩
  obtain ⟨hb,hmr⟩:=(uZ t).1 (hd (m,x) (by simp))
  obtain ⟨hkd,q,n,hkv⟩:=CO ht (hd (k',y) (by simp))
  obtain ⟨aH,clock,hg,hE⟩:=hm.map hb g3
  rw [pre ev w _ aH clock q n none hmr hkv hg (by have:=hf V _ kk 0 _ hE hkd;rw [<-this];simp only at hkv;rw [hkv])]
  exact .pure hm (mR hz1)
 ·refine ⟨_,h,e3,.refl _ _,fun _ w0 V w ev hm hd _=> ?_⟩
  obtain ⟨hb,hmr⟩:=(uZ t).1 (hd (m,x) (by simp))
  obtain ⟨hkd,q,n,hkv⟩:=CO ht (hd (k',y) (by simp))
  obtain ⟨aH,clock,hg,hE⟩:=hm.map hb g3
  obtain ⟨j,u,hfu,KL⟩:=hf V _ kk 0 _ hE hkd
  rw [pre ev w _ aH clock q n (some (j,u)) hmr hkv hg (by rw [<-hfu];simp only at hkv;rw [hkv])]
  exact .pure hm KL
theorem alN {ty kt et:TypeId} {kk:IntKind} {z:Value} {m k':Operand} {x y:X} (h1:P.underlying ty=some (.map kt et)) (h2:P.underlying kt=some (.int kk))
  (hza:∃ i,P.info? et=some i/\i.zero=some z) (hz1:one z) (ho:o.op= .lookup ty m k' true):ig P fl o [(m,x),(k',y)] h (QS (dK z) x y):=fun k r e=>by
 obtain ⟨t,es,g3,rfl,e1⟩:=KJ (show vF x h _=some r from e)
 obtain ⟨ht,e2⟩:=KH e1
 obtain ⟨i,hi,hiz⟩:=hza
 have pre:∀ (ev:Operand->Value) (w:World) g aH clock q n res,ev m= .map (some g)->ev k'= .int q n->w.heap[g]? =some (.map aH clock)->Instr.findNow (.int kk) (.int q n) aH.toList 0=some res->
   (execOp ev o).run P w= .ok (.value (.tuple #[(match res with|some (_,v)=>v|none=>z),.bool res.isSome])) w:=fun ev w g aH clock q n res hmr hkv hg hres=>by
  simp only [execOp,ho,hmr,hkv,Instr.lookup,Sem.run_bind,run_underlying h1,Result.andThen_ok,Go.Eng.qp hg,Sem.run_pure,Go.Eng.run_checkKey h2,Instr.findKey,run_underlying h2,hres]
  cases res with
  |none=>simp [zeroValue,typeInfo,hi,hiz]
  |some p=>simp
 rcases KI ht e2 with ⟨e3,hf⟩|⟨c,e3,hf⟩
 ·refine ⟨_,h,e3,.refl _ _,fun _ w0 V w ev hm hd _=> ?_⟩
  obtain ⟨hb,hmr⟩:=(uZ t).1 (hd (m,x) (by simp))
  obtain ⟨hkd,q,n,hkv⟩:=CO ht (hd (k',y) (by simp))
  obtain ⟨aH,clock,hg,hE⟩:=hm.map hb g3
  rw [pre ev w _ aH clock q n none hmr hkv hg (by have:=hf V _ kk 0 _ hE hkd;rw [<-this];simp only at hkv;rw [hkv])]
  exact .pure hm ((xu (x:=⟨3,[dK z,xF],oZ⟩) rfl).2 ⟨[z,.bool false],rfl,dz.2 ⟨_,_,rfl,mR hz1,dz.2 ⟨_,_,rfl,(lI (x:=xF) rfl).2 rfl,dA.2 rfl⟩⟩⟩)
 ·refine ⟨_,h,e3,.refl _ _,fun _ w0 V w ev hm hd _=> ?_⟩
  obtain ⟨hb,hmr⟩:=(uZ t).1 (hd (m,x) (by simp))
  obtain ⟨hkd,q,n,hkv⟩:=CO ht (hd (k',y) (by simp))
  obtain ⟨aH,clock,hg,hE⟩:=hm.map hb g3
  obtain ⟨j,u,hfu,KL⟩:=hf V _ kk 0 _ hE hkd
  rw [pre ev w _ aH clock q n (some (j,u)) hmr hkv hg (by rw [<-hfu];simp only at hkv;rw [hkv])]
  exact .pure hm ((xu (x:=⟨3,[c,xT],oZ⟩) rfl).2 ⟨[u,.bool true],rfl,dz.2 ⟨_,_,rfl,KL,dz.2 ⟨_,_,rfl,Cr,dA.2 rfl⟩⟩⟩)
end
end
end Go.M
namespace Go.M
open Go
open Go.Eng (pasted)
noncomputable section
variable [aY]
theorem KM {V:Vw} {l ys:List X} {cells vs:Array Value} {off:Nat} (h:aU V l cells.toList) (h1:∀ v ∈ cells.toList,one v) (hy:aU V ys vs.toList) (hy1:∀ v ∈ vs.toList,one v) (hf:off+ys.length<=l.length):
  off+vs.size<=cells.size/\aU V (l.take off++(ys++l.drop (off+ys.length))) (pasted cells off vs).toList/\∀ v ∈ (pasted cells off vs).toList,one v:=by
 have a1:cells.size=l.length:=by have:=jh h;simpa using this
 have a2:vs.size=ys.length:=by have:=jh hy;simpa using this
 have hf2:off+vs.size<=cells.size:=by omega
 refine ⟨hf2,JB ?_ fun i x v hx hv=> ?_,fun v hv=> ?_⟩
 ·rw [zR hf,Array.length_toList,Go.Eng.jb _ _ _ hf2,a1]
 ·rw [JR hf] at hx
  rw [Array.getElem?_toList,Go.Eng.iC _ _ _ hf2,a2] at hv
  by_cases c1:i<off
  ·rw [if_pos c1] at hx hv
   obtain ⟨v',e1,e2⟩:=mJ h hx
   rw [Array.getElem?_toList,hv] at e1;cases e1;exact e2
  ·rw [if_neg c1] at hx hv
   by_cases c2:i<off+ys.length
   ·rw [if_pos c2] at hx hv
    obtain ⟨v',e1,e2⟩:=mJ hy hx
    rw [Array.getElem?_toList,hv] at e1;cases e1;exact e2
   ·rw [if_neg c2] at hx hv
    obtain ⟨v',e1,e2⟩:=mJ h hx
    rw [Array.getElem?_toList,hv] at e1;cases e1;exact e2
 ·obtain ⟨i,hi⟩:=List.mem_iff_getElem?.1 hv
  rw [Array.getElem?_toList,Go.Eng.iC _ _ _ hf2] at hi
  by_cases c1:i<off
  ·rw [if_pos c1] at hi;exact h1 v (by rw [<-Array.getElem?_toList] at hi;exact List.mem_of_getElem? hi)
  ·rw [if_neg c1] at hi
   by_cases c2:i<off+vs.size
   ·rw [if_pos c2] at hi;exact hy1 v (by rw [<-Array.getElem?_toList] at hi;exact List.mem_of_getElem? hi)
   ·rw [if_neg c2] at hi;exact h1 v (by rw [<-Array.getElem?_toList] at hi;exact List.mem_of_getElem? hi)
def xV:List (Nat×Nat×X)->List X->(List X->R)->R
 |[],c,k=>k c
 |p::ps,c,k=>oo p.2.2 fun ys=>ah (Nat.beq (di ys) p.2.1) ((jZ p.1).f c ys fun c=>xV ps c k) none
theorem Q8 (fr:FX) (l:Loc) (k:List X->R):∀ (ps:List (Nat×Nat×Ac)) (c:List X),(E5 ps).f fr l c k=xV (ps.map fun p=>(p.1,p.2.1,p.2.2.g fr l)) c k
 |[],c=>rfl
 |p::ps,c=>by
  show (oo (p.2.2.g fr l) fun ys=>ah (Nat.beq (di ys) p.2.1) ((jZ p.1).f c ys fun c=>(E5 ps).f fr l c k) none)=_
  simp only [Q8 fr l k ps]
  rfl
theorem KN (place:Nat->Option (Nat×Nat)):∀ {qs:List (Nat×Nat×X)} {c:List X} {k:List X->R} {r},xV qs c k=some r->∃ c',k c'=some r/\c'.length=c.length/\
  ∀ V (parts:List (Nat×Value)) (cells:Array Value),aU V c cells.toList->(∀ v ∈ cells.toList,one v)->parts.length=qs.length->
   (∀ (i:Nat) p q,parts[i]? =some p->qs[i]? =some q->place p.1=some (q.1,q.2.1)/\den V q.2.2 p.2)->
   ∃ cells',Instr.fill place cells parts=some cells'/\aU V c' cells'.toList/\∀ v ∈ cells'.toList,one v
 |[],c,k,r,e=>⟨c,e,rfl,fun V parts cells h h1 hl _=>by
  have:parts=[]:=List.eq_nil_of_length_eq_zero (by simpa using hl)
  subst this
  exact ⟨cells,rfl,h,h1⟩⟩
 |q::qs,c,k,r,e=>by
  have e0:(oo q.2.2 fun ys=>ah (Nat.beq (di ys) q.2.1) ((jZ q.1).f c ys fun c=>xV qs c k) none)=some r:=e
  obtain ⟨ys,e1,hy⟩:=Cu e0
  obtain ⟨t,e2⟩:=aI e1
  have t:=aC t
  rw [lM] at t
  obtain ⟨hf,e3⟩:=xH e2
  obtain ⟨c',e4,hl',hc'⟩:=KN place e3
  refine ⟨c',e4,by rw [hl',zR hf],fun V parts cells h h1 hl hp=> ?_⟩
  cases parts with
  |nil=>simp at hl
  |cons p parts=>
   obtain ⟨b1,b2⟩:=hp 0 p q rfl rfl
   obtain ⟨b3,b4⟩:=hy V _ b2
   obtain ⟨b5,b6,b7⟩:=KM h h1 b3 b4 hf
   obtain ⟨cells',b8,b9⟩:=hc' V parts _ b6 b7 (by simpa using hl) fun i p' q' g1 g2=>hp (i+1) p' q' (by simpa using g1) (by simpa using g2)
   refine ⟨cells',?_,b9⟩
   have b10:p.2.cells.size=ys.length:=by have:=jh b3;simpa using this
   simp only [Instr.fill,b1]
   rw [if_neg (by simp;omega),Go.Eng.Bf _ _ _ b5]
   exact b8
section
variable {P:Program} {fl:Nat} {o:Oper} {h:Hp}
theorem alO {ty:TypeId} {fs:Array Field} {zs:List Value} {parts:Array (Nat×Operand)} {ps:List (Nat×Nat×Operand)} {xs:List X} {n:Nat}
  (h1:P.underlying ty=some (.struct fs)) (hz:Go.Eng.zerosOf P ty=some zs) (hps:Go.Eng.stripParts P fs parts.toList=some ps) (hsz:∀ f ∈ fs.toList,(Go.Eng.sizeP P f.type).isSome=true)
  (ho:o.op= .build ty parts) (hone:zs.all Value.oneCell'=true) (hn:n=32*zs.length+2) (hxs:xs.length=ps.length):
  eF P o ((ps.map (·.2.2)).zip xs) h (fun h k=>xV ((ps.zip xs).map fun p=>(p.1.1,p.1.2.1,p.2)) (zs.map dK) fun c=>k ⟨n,c,oZ⟩ h):=fun k r e=>by
 obtain ⟨c',e1,hl,hc⟩:=KN (fun k=>((fs.toList.map fun f=>(f.offset,(Go.Eng.sizeP P f.type).getD 0)).toArray)[k]?) e
 refine ⟨_,h,e1,fun fl=> .refl _ _,fun _ M fl w0 V w ev hm hd _=> ?_⟩
 obtain ⟨i,z,hi,hiz,hzl⟩:=Go.Eng.sH hz
 subst hzl
 have hS:=Go.Eng.Ho _ _ hps
 have Hr:∀ (l:List Field),(∀ f ∈ l,(Go.Eng.sizeP P f.type).isSome=true)->∀ w,(l.mapM (m:=Sem) fun f=>do pure (f.offset,<-sizeOf f.type)).run P w= .ok (l.map fun f=>(f.offset,(Go.Eng.sizeP P f.type).getD 0)) w:=by
  intro l
  induction l with
  |nil=>intro _ w;simp
  |cons f l ih=>
   intro hl w
   have hf:=hl f (by simp)
   obtain ⟨n,hn⟩:=Option.isSome_iff_exists.1 hf
   simp only [List.mapM_cons,Sem.run_bind,Go.Eng.cu hn,Result.andThen_ok,Sem.run_pure,ih (fun g hg=>hl g (by simp [hg])),List.map_cons,hn,Option.getD_some]
 have Ht:(fs.mapM (m:=Sem) fun f=>do pure (f.offset,<-sizeOf f.type)).run P w= .ok (fs.toList.map fun f=>(f.offset,(Go.Eng.sizeP P f.type).getD 0)).toArray w:=by
  rw [Array.mapM_eq_mapM_toList,Sem.run_map,Hr _ hsz w]
  rfl
 obtain ⟨cells',b1,b2,b3⟩:=hc V (parts.toList.map fun p=>(p.1,ev p.2)) z.cells (zV (mW hone)) (mW hone)
  (by rw [List.length_map,List.length_map,List.length_zip,hS.1,hxs,Nat.min_self]) (fun i p q hp hq=>by
   simp only [List.getElem?_map,Option.map_eq_some_iff] at hp hq
   obtain ⟨p0,hp0,rfl⟩:=hp
   obtain ⟨⟨q0,x0⟩,hq0,rfl⟩:=hq
   obtain ⟨g1,g2⟩:=List.getElem?_zip_eq_some.1 hq0
   obtain ⟨e1,f,hf,e2,e3⟩:=hS.2 i p0 _ hp0 g1
   refine ⟨by simp only [List.getElem?_toArray,List.getElem?_map,Array.getElem?_toList,hf,Option.map_some,e3,Option.getD_some,e2],?_⟩
   have:=hd (q0.2.2,x0) (List.mem_of_getElem? (i:=i) (List.getElem?_zip_eq_some.2 ⟨by simp [g1],g2⟩))
   simp only at this ⊢
   rw [e1];exact this)
 have hrun:(execOp ev o).run P w= .ok (.value (.agg cells')) w:=by
  have e0:(parts.map fun (x:Nat×Operand)=>(x.1,ev x.2)).toList=parts.toList.map fun p=>(p.1,ev p.2):=by simp
  simp only [execOp,ho,Instr.build,Sem.run_bind,zeroValue,typeInfo,run_program,hi,hiz,Sem.run_pure,Result.andThen_ok,run_underlying h1,Ht]
  rw [e0,b1]
  rfl
 rw [hrun]
 refine .pure hm ((lJ (x:=⟨n,c',oZ⟩) (by rw [hn];show (32*z.cells.toList.length+2) % 32=2;omega)).2 ⟨cells'.toList,by simp,b3,b2,?_⟩)
 have:=jh b2
 rw [this,hl,List.length_map,hn]
 show z.cells.toList.length=(32*z.cells.toList.length+2) / 32
 omega
theorem alP {ty el:TypeId} {m sz:Nat} {zs:List Value} {parts:Array (Nat×Operand)} {xs:List X} {n:Nat}
  (h1:P.underlying ty=some (.array m el)) (hz:Go.Eng.zerosOf P ty=some zs) (hs:Go.Eng.sizeP P el=some sz)
  (ho:o.op= .build ty parts) (hone:zs.all Value.oneCell'=true) (hn:n=32*zs.length+2) (hxs:xs.length=parts.toList.length):
  eF P o ((parts.toList.map (·.2)).zip xs) h (fun h k=>xV ((parts.toList.zip xs).map fun p=>(p.1.1*sz,sz,p.2)) (zs.map dK) fun c=>k ⟨n,c,oZ⟩ h):=fun k r e=>by
 obtain ⟨c',e1,hl,hc⟩:=KN (fun k=>some (k*sz,sz)) e
 refine ⟨_,h,e1,fun fl=> .refl _ _,fun _ M fl w0 V w ev hm hd _=> ?_⟩
 obtain ⟨i,z,hi,hiz,hzl⟩:=Go.Eng.sH hz
 subst hzl
 obtain ⟨cells',b1,b2,b3⟩:=hc V (parts.toList.map fun p=>(p.1,ev p.2)) z.cells (zV (mW hone)) (mW hone)
  (by rw [List.length_map,List.length_map,List.length_zip,hxs,Nat.min_self]) (fun i p q hp hq=>by
   simp only [List.getElem?_map,Option.map_eq_some_iff] at hp hq
   obtain ⟨p0,hp0,rfl⟩:=hp
   obtain ⟨⟨q0,x0⟩,hq0,rfl⟩:=hq
   obtain ⟨g1,g2⟩:=List.getElem?_zip_eq_some.1 hq0
   rw [hp0] at g1;cases g1
   refine ⟨rfl,?_⟩
   exact hd (q0.2,x0) (List.mem_of_getElem? (i:=i) (List.getElem?_zip_eq_some.2 ⟨by simp [hp0],g2⟩)))
 have hrun:(execOp ev o).run P w= .ok (.value (.agg cells')) w:=by
  have e0:(parts.map fun (x:Nat×Operand)=>(x.1,ev x.2)).toList=parts.toList.map fun p=>(p.1,ev p.2):=by simp
  simp only [execOp,ho,Instr.build,Sem.run_bind,zeroValue,typeInfo,run_program,hi,hiz,Sem.run_pure,Result.andThen_ok,run_underlying h1,Go.Eng.cu hs]
  rw [e0,b1]
  rfl
 rw [hrun]
 refine .pure hm ((lJ (x:=⟨n,c',oZ⟩) (by rw [hn];show (32*z.cells.toList.length+2) % 32=2;omega)).2 ⟨cells'.toList,by simp,b3,b2,?_⟩)
 have:=jh b2
 rw [this,hl,List.length_map,hn]
 show z.cells.toList.length=(32*z.cells.toList.length+2) / 32
 omega
def CP (sz:Nat):List (Nat×X)->List X->(List X->R)->R
 |[],c,k=>k c
 |p::ps,c,k=>oo p.2 fun ys=>ah (Nat.beq (di ys) sz) ((tq p.1).f c ⟨Nat.add (Nat.mul 32 sz) 2,ys,oZ⟩ fun c=>CP sz ps c k) none
theorem Q9 (sz:Nat) (fr:FX) (l:Loc) (k:List X->R):∀ (ps:List (Nat×Ac)) (c:List X),(E8 sz ps).f fr l c k=CP sz (ps.map fun p=>(p.1,p.2.g fr l)) c k
 |[],c=>rfl
 |p::ps,c=>by
  show (oo (p.2.g fr l) fun ys=>ah (Nat.beq (di ys) sz) ((tq p.1).f c ⟨Nat.add (Nat.mul 32 sz) 2,ys,oZ⟩ fun c=>(E8 sz ps).f fr l c k) none)=_
  simp only [Q9 sz fr l k ps]
  rfl
theorem Ra {l:List X} {q:Nat} {x:X} (hq:q<l.length):l.set q x=l.take q++([x]++l.drop (q+[x].length)):=by
 rw [List.set_eq_take_append_cons_drop,if_pos hq];rfl
theorem Rb {sz:Nat}:∀ {qs:List (Nat×X)} {c:List X} {k:List X->R} {r},CP sz qs c k=some r->∃ c',k c'=some r/\c'.length=c.length/\
  ∀ V (parts:List (Nat×Value)) (cells:Array Value),bg V sz c cells->cells.size=c.length*sz->parts.length=qs.length->
   (∀ (i:Nat) p q,parts[i]? =some p->qs[i]? =some q->p.1=q.1/\den V q.2 p.2)->
   ∃ cells',Instr.fill (fun i=>some (i*sz,sz)) cells parts=some cells'/\bg V sz c' cells'/\cells'.size=cells.size
 |[],c,k,r,e=>⟨c,e,rfl,fun V parts cells h _ hl _=>by
  have:parts=[]:=List.eq_nil_of_length_eq_zero (by simpa using hl)
  subst this
  exact ⟨cells,rfl,h,rfl⟩⟩
 |q::qs,c,k,r,e=>by
  have e0:(oo q.2 fun ys=>ah (Nat.beq (di ys) sz) ((tq q.1).f c ⟨Nat.add (Nat.mul 32 sz) 2,ys,oZ⟩ fun c=>CP sz qs c k) none)=some r:=e
  obtain ⟨ys,e1,hy⟩:=Cu e0
  obtain ⟨t,e2⟩:=aI e1
  have t:=aC t
  rw [lM] at t
  obtain ⟨hf,e3⟩:=EI e2
  obtain ⟨c',e4,hl',hc'⟩:=Rb e3
  refine ⟨c',e4,by rw [hl',List.length_set],fun V parts cells h hsz hl hp=> ?_⟩
  cases parts with
  |nil=>simp at hl
  |cons p parts=>
   obtain ⟨b1,b2⟩:=hp 0 p q rfl rfl
   obtain ⟨b3,b4⟩:=hy V _ b2
   have b10:p.2.cells.size=sz:=by have:=jh b3;simpa [t] using this
   have hrow:bg V sz [⟨Nat.add (Nat.mul 32 sz) 2,ys,oZ⟩] p.2.cells:=by
    have:=QI b3 b4 (32*ys.length+2) oZ rfl
    rw [t] at this;simpa using this
   have hm1:(q.1+1)*sz<=c.length*sz:=Nat.mul_le_mul_right _ hf
   rw [Nat.add_mul,Nat.one_mul] at hm1
   have hfit:q.1*sz+p.2.cells.size<=cells.size:=by omega
   have hsp:=h.splice (q:=q.1) hrow (by simp only [List.length_cons,List.length_nil];omega) (by simp [b10]) hfit
   rw [<-Ra hf] at hsp
   have hps:=Go.Eng.jb cells (q.1*sz) p.2.cells hfit
   obtain ⟨cells',b8,b9,b11⟩:=hc' V parts _ hsp (by rw [hps,List.length_set];exact hsz) (by simpa using hl) fun i p' q' g1 g2=>hp (i+1) p' q' (by simpa using g1) (by simpa using g2)
   refine ⟨cells',?_,b9,by rw [b11,hps]⟩
   simp only [Instr.fill,b1]
   rw [if_neg (by simp;omega),Go.Eng.Bf _ _ _ hfit]
   exact b8
def Rc (P:Program) (o:Oper) (ops:List (Operand×X)) (h:Hp) (c:Hp->Kx->R):Prop:=
 ∀ k r,c h k=some r->∃ x h',k x h'=some r/\(∀ fl,aM fl h h')/\(∀ fl w0 V w (ev:Operand->Value),MR w0 V h w->(∀ q ∈ ops,den V q.2 (ev q.1))->dw RM P w0 fl V h w x h' ((execOp ev o).run P w))/\h.n<65536/\h'.n=h.n+1/\
  (∀ w V (ev:Operand->Value),(∀ q ∈ ops,den V q.2 (ev q.1))->¬ V.S h.n->∃ v ob g e,(execOp ev o).run P w= .ok (.value v) (w.alloc ob)/\bH (bL V h.n w.heap.size g e) (w.alloc ob) h.n (gH h' h.n)/\den (bL V h.n w.heap.size g e) x v)
theorem alQ {ty el:TypeId} {len sz:Nat} {zs:List Value} {parts:Array (Nat×Operand)} {xs:List X}
  (hu:P.underlying ty=some (.slice el)) (hz:Go.Eng.zerosOf P el=some zs) (hs:Go.Eng.sizeP P el=some sz) (hzl:zs.length=sz) (hpos:0<sz) (hmax:len*sz<=16777216)
  (ho:o.op= .buildSlice ty len parts) (hone:zs.all Value.oneCell'=true) (hxs:xs.length=parts.toList.length):
  Rc P o ((parts.toList.map (·.2)).zip xs) h (fun h k=>CP sz ((parts.toList.zip xs).map fun p=>(p.1.1,p.2)) (rA ⟨32*sz+2,zs.map dK,oZ⟩ len) fun rows=>aJ (Nat.add (Nat.mul 32 sz) 1) fun e=>oq ⟨e,rows,oZ⟩ h fun b h=>gZ b 0 len 0 h k):=fun k r e=>by
 rw [Cn] at e
 obtain ⟨rows,e1,hl,hc⟩:=Rb e
 rw [List.length_replicate] at hl
 have e2:(oq ⟨Nat.add (Nat.mul 32 sz) 1,rows,oZ⟩ h fun b h=>gZ b 0 len 0 h k)=some r:=e1
 obtain ⟨hn,e3⟩:=Cq e2
 obtain ⟨_,hlen,x,e4,hx⟩:=rJ e3 (by decide)
 obtain ⟨i,z,hi,hiz,hzz⟩:=Go.Eng.sH hz
 have hzc:z.cells.size=sz:=by rw [<-Array.length_toList,hzz];exact hzl
 have base:∀ V,bg V sz (List.replicate len ⟨32*sz+2,zs.map dK,oZ⟩) (madeCells (if len*sz=0 then #[] else z.cells) (len*sz)):=fun V=>bg.zeros (mW hone) hzl fun k j hk hj=>by
  have:¬ len*sz=0:=by
   have:=Nat.mul_pos (show 0<len by omega) hpos
   omega
  rw [if_neg this,Go.Eng.yL hzc hk hj,hzz]
 have raw:∀ (w:World) (V:Vw) (ev:Operand->Value),(∀ q ∈ (parts.toList.map (·.2)).zip xs,den V q.2 (ev q.1))->¬ V.S h.n->∃ cells',(execOp ev o).run P w= .ok (.value (.slice (some ⟨w.heap.size,0,none⟩) len len)) (w.alloc (.cells cells' el))/\
   bH (bL V h.n w.heap.size (len*sz) sz) (w.alloc (.cells cells' el)) h.n ⟨Nat.add (Nat.mul 32 sz) 1,rows,oZ⟩/\den (bL V h.n w.heap.size (len*sz) sz) x (.slice (some ⟨w.heap.size,0,none⟩) len len):=fun w V ev hd CQ=>by
  obtain ⟨cells',b1,b2,b3⟩:=hc V (parts.toList.map fun p=>(p.1,ev p.2)) _ (base V) (by rw [size_madeCells,List.length_replicate])
   (by rw [List.length_map,List.length_map,List.length_zip,hxs,Nat.min_self]) (fun i p q hp hq=>by
    simp only [List.getElem?_map,Option.map_eq_some_iff] at hp hq
    obtain ⟨p0,hp0,rfl⟩:=hp
    obtain ⟨⟨q0,x0⟩,hq0,rfl⟩:=hq
    obtain ⟨g1,g2⟩:=List.getElem?_zip_eq_some.1 hq0
    rw [hp0] at g1;cases g1
    exact ⟨rfl,hd (q0.2,x0) (List.mem_of_getElem? (i:=i) (List.getElem?_zip_eq_some.2 ⟨by simp [hp0],g2⟩))⟩)
  rw [size_madeCells] at b3
  have hrun:(execOp ev o).run P w= .ok (.value (.slice (some ⟨w.heap.size,0,none⟩) len len)) (w.alloc (.cells cells' el)):=by
   have e0:(parts.map fun (x:Nat×Operand)=>(x.1,ev x.2)).toList=parts.toList.map fun p=>(p.1,ev p.2):=by simp
   have hmx:¬ (len*sz>2 ^ 24):=by
    have:(2:Nat) ^ 24=16777216:=by decide
    omega
   unfold madeCells at b1
   by_cases h0:len*sz=0
   ·simp only [h0,if_true] at b1
    simp only [execOp,ho,Instr.buildSlice,Sem.run_bind,run_underlying hu,Result.andThen_ok,Go.Eng.cu hs,h0]
    simp only [show ¬ ((0:Nat)>2 ^ 24) from by omega,if_false,if_true,Sem.run_bind,Sem.run_pure,Result.andThen_ok]
    rw [e0,b1]
    simp [newRow]
   ·simp only [h0,if_false] at b1
    simp only [execOp,ho,Instr.buildSlice,Sem.run_bind,run_underlying hu,Result.andThen_ok,Go.Eng.cu hs,hmx,h0,if_false,zeroValue,typeInfo,run_program,hi,hiz,Sem.run_pure]
    rw [e0,b1]
    simp [newRow]
  have hE:Ext V (bL V h.n w.heap.size (len*sz) sz):=vg CQ
  have hB:bH (bL V h.n w.heap.size (len*sz) sz) (w.alloc (.cells cells' el)) h.n ⟨Nat.add (Nat.mul 32 sz) 1,rows,oZ⟩:=by
   unfold bH
   simp only [show Nat.add (Nat.mul 32 sz) 1 % 32=1 by show (32*sz+1) % 32=1;omega]
   rw [gF,rD,rE]
   exact ⟨cells',el,xO w _,b3,by show (32*sz+1) / 32=sz;omega,hpos,by rw [hl],b2.mono hE⟩
  refine ⟨cells',hrun,hB,?_⟩
  have:=hx (bL V h.n w.heap.size (len*sz) sz) len (.inr rfl) (Nat.le_refl _) (fun hh=>by cases hh) (fun _=>by rw [rE,rD];simp)
  rw [gF] at this
  exact this
 refine ⟨x,_,e4,fun fl=> .al _ _ _ hn,fun fl w0 V w ev hm hd=> ?_,hn,rfl,fun w V ev hd CQ=> ?_⟩
 ·obtain ⟨cells',hrun,hB,hx'⟩:=raw w V ev hd hm.xJ
  rw [hrun]
  obtain ⟨h2,h3⟩:=hm.alloc (w':=w.alloc (.cells cells' el)) hn (g:=w.heap.size) (s:=len*sz) (e:=sz) (Nat.le_refl _) (by rw [pW];omega) (fun k hk=>pV w _ hk) rfl rfl rfl hB fl
  exact ⟨_,_,_,.inl rfl,h2,hx',h3⟩
 ·obtain ⟨cells',hrun,hB,hx'⟩:=raw w V ev hd CQ
  refine ⟨_,_,_,_,hrun,?_,hx'⟩
  have:gH (ji h ⟨Nat.add (Nat.mul 32 sz) 1,rows,oZ⟩) h.n=⟨Nat.add (Nat.mul 32 sz) 1,rows,oZ⟩:=by
   have:=tK (t:=h.t) (blk:=⟨Nat.add (Nat.mul 32 sz) 1,rows,oZ⟩) hn hn
   rw [if_pos rfl] at this;exact this
  show bH _ _ _ (gH (ji h ⟨Nat.add (Nat.mul 32 sz) 1,rows,oZ⟩) h.n)
  rw [this];exact hB
end
end
end Go.M
namespace Go.M
open Go
noncomputable section
variable [aY]
section
variable {P:Program} {fl:Nat} {o:Oper} {h:Hp}
theorem alR {sz:Nat} {rows:List X} {x:X} {n:Nat} (hn:h.n<65536) (hN:n=32*sz+1)
  (hx:∀ V,V.S h.n->rows.length*V.ε h.n=V.σ h.n->den V x (.slice (some ⟨V.ρ h.n,0,none⟩) rows.length rows.length))
  {w0:World} {V:Vw} {w:World} {cells:Array Value} {el:TypeId} (hm:MR w0 V h w) (h0:0<sz) (hR:bg V sz rows cells) (hc:cells.size=rows.length*sz) (fl:Nat):
  dw RM P w0 fl V h w x (ji h ⟨n,rows,oZ⟩) (.ok (.value (.slice (some ⟨w.heap.size,0,none⟩) rows.length rows.length)) (w.alloc (.cells cells el))):=by
 subst hN
 have hE:Ext V (bL V h.n w.heap.size (rows.length*sz) sz):=vg hm.xJ
 have hB:bH (bL V h.n w.heap.size (rows.length*sz) sz) (w.alloc (.cells cells el)) h.n ⟨32*sz+1,rows,oZ⟩:=by
  unfold bH
  simp only [show (32*sz+1) % 32=1 by omega]
  rw [gF,rD,rE]
  exact ⟨cells,el,xO w _,hc,by omega,h0,rfl,hR.mono hE⟩
 obtain ⟨h2,h3⟩:=hm.alloc (w':=w.alloc (.cells cells el)) hn (g:=w.heap.size) (s:=rows.length*sz) (e:=sz) (Nat.le_refl _) (by rw [pW];omega) (fun k hk=>pV w _ hk) rfl rfl rfl hB fl
 refine ⟨_,_,_,.inl rfl,h2,?_,h3⟩
 have:=hx (bL V h.n w.heap.size (rows.length*sz) sz) (.inr rfl) (by rw [rE,rD])
 rw [gF] at this
 exact this
theorem alS {ty el sz aP:Nat} {zs:List Value} {l c:Operand} {x y:X} (hE:Go.Eng.El P ty el sz aP zs) (hone:zs.all Value.oneCell'=true) (ho:o.op= .makeSlice ty l c):
  ig P fl o [(l,x),(c,y)] h (JO sz aP (zs.map dK) x y):=fun k r e=>by
 obtain ⟨i,z,hi,hiz,his,hib,hzc,hzl⟩:=hE.info
 have e0:ah (Nat.beq x.n y.n) (ah (Nat.beq (Nat.land x.n 31) 0) (ah (Nat.ble (Nat.shiftRight x.n 5) 1048575) (ah (Nat.ble (Nat.mul (Nat.shiftRight x.n 5) aP) 140737488355328)
  (oq ⟨Nat.add (Nat.mul 32 sz) 1,rA ⟨Nat.add (Nat.mul 32 sz) 2,zs.map dK,oZ⟩ (Nat.shiftRight x.n 5),oZ⟩ h fun b h=>gZ b 0 (Nat.shiftRight x.n 5) 0 h k) none) none) none) none=some r:=by
  have:=e
  unfold JO at this
  simpa only [mI] using this
 obtain ⟨t1,e1⟩:=aI e0
 obtain ⟨t2,e2⟩:=aI e1
 obtain ⟨t3,e3⟩:=aI e2
 obtain ⟨t4,e4⟩:=aI e3
 have t1:=aC t1
 have t2:=bJ t2
 have s1:Nat.shiftRight x.n 5=x.n / 32:=shr _ 5
 rw [s1] at t3 t4 e4
 have t3:=bI t3
 have t4:x.n / 32*aP<=140737488355328:=bI t4
 rw [Cn] at e4
 obtain ⟨hn,e5⟩:=Cq e4
 obtain ⟨_,hlen,v,e6,hx⟩:=rJ e5 (by decide)
 refine ⟨v,_,e6,.al _ _ _ hn,fun _ w0 V w ev hm hd _=> ?_⟩
 have d1:=(dO t2).1 (hd (l,x) (by simp))
 have d2:=(dO (x:=y) (by rw [<-t1];exact t2)).1 (hd (c,y) (by simp))
 simp only [<-t1] at d1 d2
 generalize x.n / 32=m at*
 have hrun:=run_make (P:=P) w ty el i z hE.und hi hiz .i64 .i64 (Int.ofNat m) (Int.ofNat m) (Int.natCast_nonneg _) (Int.le_refl _) (by
  rw [hib]
  have:((aP:Int)*(m:Int))=((m*aP:Nat):Int):=by rw [Int.natCast_mul,Int.mul_comm]
  show (aP:Int)*(m:Int)<=_
  rw [this];omega) (by show (m:Int)<=_;omega)
 have KO:(execOp ev o).run P w= .ok (.value (.slice (some ⟨w.heap.size,0,none⟩) m m)) (w.alloc (.cells (madeCells z.cells (m*sz)) el)):=by
  simp only [Int.ofNat_eq_natCast,Int.toNat_natCast,his] at hrun
  simp only [execOp,ho,d1,d2,Sem.run_bind,Int.ofNat_eq_natCast,hrun,Result.andThen_ok,Sem.run_pure]
 rw [KO]
 have:=alR (P:=P) (rows:=List.replicate m ⟨Nat.add (Nat.mul 32 sz) 2,zs.map dK,oZ⟩) (cells:=madeCells z.cells (m*sz)) (el:=el) (x:=v) hn rfl (fun V hb he=>by
  rw [List.length_replicate] at he ⊢
  exact hx V m hb (Nat.le_refl _) (fun hh=>by cases hh) (fun _=>by rw [Nat.zero_add];exact he)) hm hE.pos
  (bg.zeros (mW hone) hE.zl fun k j hk hj=>by rw [Go.Eng.yL hzc hk hj,hzl]) (by rw [size_madeCells,List.length_replicate]) fl
 rw [List.length_replicate] at this
 exact this
theorem alT {ty:TypeId} (ho:o.op= .makeMap ty none):ig P fl o [] h Ka:=fun k r e=>by
 have e1:(oq ⟨3,[],oZ⟩ h fun b h=>k (aK (Nat.add (Nat.mul 32 b) 10)) h)=some r:=by
  have:=e
  unfold Ka at this
  simpa only [mI] using this
 obtain ⟨hn,e2⟩:=Cq e1
 refine ⟨_,_,e2,.al _ _ _ hn,fun _ w0 V w ev hm hd _=> ?_⟩
 have hrun:(execOp ev o).run P w= .ok (.value (.map (some w.heap.size))) (w.alloc (.map #[] 0)):=by simp [execOp,ho,Instr.makeMap]
 rw [hrun]
 have hB:bH (bL V h.n w.heap.size 0 0) (w.alloc (.map #[] 0)) h.n ⟨3,[],oZ⟩:=by
  unfold bH
  simp only [show 3 % 32=3 by decide]
  rw [gF]
  exact ⟨#[],0,xO w _,by simp [iE]⟩
 obtain ⟨h2,h3⟩:=hm.alloc (w':=w.alloc (.map #[] 0)) hn (g:=w.heap.size) (s:=0) (e:=0) (Nat.le_refl _) (by rw [pW];omega) (fun k hk=>pV w _ hk) rfl rfl rfl hB fl
 refine ⟨_,_,_,.inl rfl,h2,?_,h3⟩
 rw [uZ (x:=aK (Nat.add (Nat.mul 32 h.n) 10)) (by show (32*h.n+10) % 32=10;omega)]
 have:(aK (Nat.add (Nat.mul 32 h.n) 10)).n / 32=h.n:=by show (32*h.n+10) / 32=h.n;omega
 rw [this,gF]
 exact ⟨.inr rfl,rfl⟩
theorem Rf {mx:Bool} {c:Call} {a b:Operand} {ev:Operand->Value} {w:World} {q:IntKind} {m n:Int} (hc:c.callee= .builtin (if mx then .max else .min)) (ho:o.op= .call c) (h3:c.args= #[a,b])
  (ha:ev a= .int q m) (hb:ev b= .int q n):(execOp ev o).run P w= .ok (.value (.int q (if mx then max m n else min m n))) w:=by
 cases mx
 ·simp only [Bool.false_eq_true,if_false] at hc ⊢
  have hrun:(execOp ev o).run P w= .ok (.value (.int q (if n<m then n else m))) w:=by
   simp only [execOp,ho,resolve,hc,invoke,builtin,Sem.run_bind,Sem.run_pure,Result.andThen_ok,Builtin.min_,h3,List.map_toArray,List.map_cons,List.map_nil,ha,hb]
   simp [Builtin.min2]
  rw [hrun,show (min m n)=(if n<m then n else m) from by rw [Int.min_def];split<;>split<;>omega]
 ·simp only [if_true] at hc ⊢
  have hrun:(execOp ev o).run P w= .ok (.value (.int q (if n>m then n else m))) w:=by
   simp only [execOp,ho,resolve,hc,invoke,builtin,Sem.run_bind,Sem.run_pure,Result.andThen_ok,Builtin.max_,h3,List.map_toArray,List.map_cons,List.map_nil,ha,hb]
   simp [Builtin.max2]
  rw [hrun,show (max m n)=(if n>m then n else m) from by rw [Int.max_def];split<;>split<;>omega]
theorem Rh {mx:Bool} {c:Call} {a b:Operand} {x y:X} (hc:c.callee= .builtin (if mx then .max else .min)) (ho:o.op= .call c) (h3:c.args= #[a,b]):
  eF P o [(a,x),(b,y)] h (JN mx x y):=fun k r e=>by
 unfold JN at e
 simp only [rF] at e
 rcases aF e with ⟨t,e1⟩|⟨_,e1⟩
 ·obtain ⟨t1,t2⟩:=JS t
  have fin:∀ v:X,k v h=some r->(∀ V:Vw,den V v (.int .i64 (if mx then max (Int.ofNat (x.n / 32)) (Int.ofNat (y.n / 32)) else min (Int.ofNat (x.n / 32)) (Int.ofNat (y.n / 32)))))->∃ x_1 h',k x_1 h'=some r/\(∀ fl,aM fl h h')/\((∀ p ∈ h'.fa,p)->∀ (M:Rel) fl w0 V w (ev:Operand->Value),M.R w0 V h w->(∀ q ∈ [(a,x),(b,y)],den V q.2 (ev q.1))->(∀ v,ev (.const v)=v)->
    dw M P w0 fl V h w x_1 h' ((execOp ev o).run P w)):=fun v e2 hv=>⟨v,h,e2,fun fl=> .refl _ _,fun _ M fl w0 V w ev hm hd _=>by
   rw [Rf hc ho h3 ((dO t1).1 (hd (a,x) (by simp))) ((dO t2).1 (hd (b,y) (by simp)))]
   exact .pure hm (hv V)⟩
  have dx:∀ V:Vw,den V x (.int .i64 (Int.ofNat (x.n / 32))):=fun V=>(dO t1).2 rfl
  have dy:∀ V:Vw,den V y (.int .i64 (Int.ofNat (y.n / 32))):=fun V=>(dO t2).2 rfl
  rcases aF e1 with ⟨t3,e2⟩|⟨t3,e2⟩
  ·have t3:x.n / 32<=y.n / 32:=Nat.div_le_div_right (bI t3)
   cases mx
   ·refine fin x e2 fun V=> ?_
    rw [if_neg (by decide),show min (Int.ofNat (x.n / 32)) (Int.ofNat (y.n / 32))=Int.ofNat (x.n / 32) from Int.min_eq_left (Int.ofNat_le.2 t3)];exact dx V
   ·refine fin y e2 fun V=> ?_
    rw [if_pos rfl,show max (Int.ofNat (x.n / 32)) (Int.ofNat (y.n / 32))=Int.ofNat (y.n / 32) from Int.max_eq_right (Int.ofNat_le.2 t3)];exact dy V
  ·have t3:y.n / 32<=x.n / 32:=Nat.div_le_div_right (Nat.le_of_lt (tJ t3))
   cases mx
   ·refine fin y e2 fun V=> ?_
    rw [if_neg (by decide),show min (Int.ofNat (x.n / 32)) (Int.ofNat (y.n / 32))=Int.ofNat (y.n / 32) from Int.min_eq_right (Int.ofNat_le.2 t3)];exact dy V
   ·refine fin x e2 fun V=> ?_
    rw [if_pos rfl,show max (Int.ofNat (x.n / 32)) (Int.ofNat (y.n / 32))=Int.ofNat (x.n / 32) from Int.max_eq_left (Int.ofNat_le.2 t3)];exact dx V
 ·obtain ⟨u,hu,e2⟩:=rG e1
  obtain ⟨v,hv,e3⟩:=rG e2
  split at e3
  ·rename_i q m q' n
   obtain ⟨t,e4⟩:=aI e3
   have t:q=q':=of_decide_eq_true t
   subst t
   rw [xL] at e4
   refine ⟨_,h,e4,fun fl=> .refl _ _,fun _ M fl w0 V w ev hm hd _=> ?_⟩
   rw [Rf hc ho h3 (jk hu (hd (a,x) (by simp))) (jk hv (hd (b,y) (by simp)))]
   exact .pure hm (mR rfl)
  ·cases e3
end
end
end Go.M
namespace Go.M
open Go
noncomputable section
variable [aY]
theorem Ri:∀ {es:List X} {n:Nat} {y:X} {k:List X->R} {r},(n % 32=0\/n % 32=4)->xk es n y k=some r->∃ es',k es'=some r/\
  ∀ V aH kk i0 v u,iE V es aH->den V ⟨n,[],oZ⟩ v->(∃ q a,v= .int q a)->den V y u->
   (Instr.findNow (.int kk) v aH i0=some none/\∀ born,iE V es' (aH++[{key:=v,val:=u,born:=born}]))\/
   (∃ i m,Instr.findNow (.int kk) v aH i0=some (some (i0+i,m.val))/\aH[i]? =some m/\m.key=v/\iE V es' (aH.modify i fun e=>{e with key:=v,val:=u}))
 |[],n,y,k,r,ht,e=>⟨_,e,fun V aH kk i0 v u he hv hi hu=>by
  have:aH=[]:=he
  subst this
  exact .inl ⟨rfl,fun born=>⟨_,[],y,rfl,rfl,hv,hi,hu,rfl⟩⟩⟩
 |x::es,n,y,k,r,ht,e=>by
  have e0:ah (Nat.beq (Nat.land x.n (kM n)) (Nat.land n (kM n))) (ah (Nat.beq x.n n) (k (⟨n,[y],oZ⟩::es)) (xk es n y fun r=>k (x::r))) none=some r:=e
  obtain ⟨t,e1⟩:=aI e0
  rcases aF e1 with ⟨t1,e2⟩|⟨t1,e2⟩
  ·have t1:=aC t1
   refine ⟨_,e2,fun V aH kk i0 v u he hv hi hu=> ?_⟩
   obtain ⟨m,rest,c',rfl,hc,hkey,_,hval,hE⟩:=he
   obtain ⟨q,a,b,h1,h2,h3⟩:=Fw ht t hkey hv
   have hab:=h3.1 t1
   subst hab
   refine .inr ⟨0,m,by rw [h2];simp [Instr.findNow,h1,Instr.sameNow],rfl,by rw [h1,h2],?_⟩
   exact ⟨{m with key:=v,val:=u},rest,y,by simp [List.modify],rfl,hv,hi,hu,hE⟩
  ·have t1:=gq t1
   obtain ⟨es',e3,hes⟩:=Ri ht e2
   refine ⟨_,e3,fun V aH kk i0 v u he hv hi hu=> ?_⟩
   obtain ⟨m,rest,c',rfl,hc,hkey,hki,hval,hE⟩:=he
   obtain ⟨q,a,b,h1,h2,h3⟩:=Fw ht t hkey hv
   have hab:¬ b=a:=fun h=>t1 (h3.2 h.symm)
   have hb:(b==a)=false:=by simp [hab]
   have hstep:Instr.findNow (.int kk) v (m::rest) i0=Instr.findNow (.int kk) v rest (i0+1):=by rw [h2];simp [Instr.findNow,h1,Instr.sameNow,hb]
   rcases hes V rest kk (i0+1) v u hE hv hi hu with ⟨f1,f2⟩|⟨i,m',f1,f2,f3,f4⟩
   ·exact .inl ⟨by rw [hstep];exact f1,fun born=>⟨m,_,c',rfl,hc,hkey,hki,hval,f2 born⟩⟩
   ·refine .inr ⟨i+1,m',by rw [hstep,f1];congr 2;simp;omega,by simpa using f2,f3,?_⟩
    exact ⟨m,rest.modify i fun e=>{e with key:=v,val:=u},c',by simp [List.modify],hc,hkey,hki,hval,f4⟩
section
variable {P:Program} {fl:Nat} {o:Oper} {h:Hp}
theorem Rj {ty kt et:TypeId} {kk:IntKind} {m k' a:Operand} {x y z:X} (h1:P.underlying ty=some (.map kt et)) (h2:P.underlying kt=some (.int kk))
  (ho:o.op= .mapUpdate ty m k' a\/o.op= .insert ty m k' a) (hfl:fl=h.fl):ig P fl o [(m,x),(k',y),(a,z)] h (QT x y z):=fun k r e=>by
 subst hfl
 obtain ⟨t,es,g3,rfl,e1⟩:=KJ (show vF x h _=some r from e)
 obtain ⟨ht,e2⟩:=KH e1
 have e3:xk (gH h (x.n / 32)).l y.n ⟨z.n,z.l,z.o⟩ (fun es=>j6 (x.n / 32) ⟨3,es,oZ⟩ h fun h=>k xU h)=some r:=by
  rw [fo] at e2;exact e2
 rw [show (⟨z.n,z.l,z.o⟩:X)=z by cases z;rfl] at e3
 obtain ⟨es',e4,hes⟩:=Ri ht e3
 obtain ⟨vJ,hb',e5⟩:=xI e4
 refine ⟨xU,_,e5,.put vJ hb',fun _ w0 V w ev hm hd _=> ?_⟩
 obtain ⟨hb,hmr⟩:=(uZ t).1 (hd (m,x) (by simp))
 obtain ⟨hkd,q,n,hkv⟩:=CO ht (hd (k',y) (by simp))
 obtain ⟨aH,clock,hg,hE⟩:=hm.map hb g3
 have hmr:ev m=_:=hmr
 have hkv:ev k'= .int q n:=hkv
 have hkd:den V ⟨y.n,[],oZ⟩ (ev k'):=hkd
 have wJ:=(hm.nw _ hb).2
 have hlv:live (gH h (x.n / 32)):=by unfold live;rw [g3];simp
 have set:∀ gm clock',(setObj (V.ρ (x.n / 32)) (.map gm clock')).run P w= .ok () {w with heap:=w.heap.setIfInBounds (V.ρ (x.n / 32)) (.map gm clock')}:=fun gm clock'=>by
  simp [setObj,Sem.run,hg]
 have moved:∀ (gm:Array MapEntry) clock',iE V es' gm.toList->MR w0 V (iF h (x.n / 32) ⟨3,es',oZ⟩) {w with heap:=w.heap.setIfInBounds (V.ρ (x.n / 32)) (.map gm clock')}/\Stp h.fl V h w V {w with heap:=w.heap.setIfInBounds (V.ρ (x.n / 32)) (.map gm clock')}:=fun gm clock' he=>by
  refine hm.write (w':={w with heap:=w.heap.setIfInBounds (V.ρ (x.n / 32)) (.map gm clock')}) hb vJ (fun k hk=> ?_) (by simp) rfl rfl rfl hlv ?_
  ·have hne:¬ V.ρ (x.n / 32)=k:=fun e=>hk e.symm
   simp [Array.getElem?_setIfInBounds,hne]
  ·unfold bH
   exact ⟨gm,clock',by simp [wJ],he⟩
 rcases hes V aH.toList kk 0 _ _ hE hkd ⟨_,_,hkv⟩ (hd (a,z) (by simp)) with ⟨f1,f2⟩|⟨i,m',f1,f2,f3,f4⟩
 ·obtain ⟨r1,r2⟩:=moved (aH.push {key:=ev k',val:=ev a,born:=clock}) (clock+1) (by simpa using f2 clock)
  refine ⟨undef,_,V,.inr ⟨rfl,?_⟩,r1,mU,r2⟩
  rw [hkv] at f1 ⊢
  rcases ho with ho|ho<;>simp only [execOp,ho,hmr,hkv,Instr.mapUpdate,Sem.run_bind,run_underlying h1,Result.andThen_ok,Go.Eng.qp hg,Go.Eng.run_checkKey h2,Instr.findKey,run_underlying h2,f1,Sem.run_pure,set]
 ·obtain ⟨r1,r2⟩:=moved (aH.modify i fun e=>{e with key:=ev k',val:=ev a}) clock (by simpa using f4)
  refine ⟨undef,_,V,.inr ⟨rfl,?_⟩,r1,mU,r2⟩
  have hkeep:(Instr.keyThatStays (.int q n) (.int q n)).run P w= .ok (.int q n) w:=by
   simp [Instr.keyThatStays,Instr.sameBits]
  have wK:aH[i]? =some m':=by simpa using f2
  rw [hkv] at f1 f3 ⊢
  rcases ho with ho|ho<;>simp only [execOp,ho,hmr,hkv,Instr.mapUpdate,Sem.run_bind,run_underlying h1,Result.andThen_ok,Go.Eng.qp hg,Go.Eng.run_checkKey h2,Instr.findKey,run_underlying h2,f1,Sem.run_pure,Nat.zero_add,wK,Option.map_some,Option.getD_some,f3,hkeep,set]
end
end
end Go.M
namespace Go.M
open Go
noncomputable section
variable [aY]
section
variable {P:Program} {fl:Nat} {o:Oper} {h:Hp}
theorem alU {z:Array Value} {zs:List Value} {sz n:Nat} (hone:zs.all Value.oneCell'=true) (hzz:z.toList=zs) (hsz:0<sz) (hzc:z.size=sz):∀ v ∈ (Builtin.zeroCells z n).toList,one v:=fun v hv=>by
 obtain ⟨j,hj,rfl⟩:=List.mem_iff_getElem.1 hv
 have hj':j<n*sz:=by rw [<-hzc,<-vz];exact hj
 have d1:j / sz<n:=Nat.div_lt_of_lt_mul (by rw [Nat.mul_comm];exact hj')
 have d2:j % sz<sz:=Nat.mod_lt _ hsz
 have hgz:=Go.Eng.wM hzc d1 d2
 rw [show j / sz*sz+j % sz=j from by rw [Nat.mul_comm];exact Nat.div_add_mod j sz,hzz] at hgz
 rw [<-Array.getElem?_toList,List.getElem?_eq_getElem hj] at hgz
 exact List.all_eq_true.1 hone _ (List.mem_iff_getElem?.2 ⟨_,hgz.symm⟩)
theorem alV {ty el sz:Nat} {zs:List Value} {a:Operand} {c:Call} {x:X} (hu:P.underlying ty=some (.slice el)) (hz:Go.Eng.zerosOf P el=some zs) (hs:Go.Eng.sizeP P el=some sz)
  (hzl:zs.length=sz) (hpos:0<sz) (hone:zs.all Value.oneCell'=true) (hc:c.callee= .builtin .clear) (h2:c.argTypes[0]? =some ty) (h3:c.args[0]? =some a) (ho:o.op= .call c) (hfl:fl=h.fl):
  ig P fl o [(a,x)] h (JQ sz (zs.map dK) x):=fun k r e=>by
 subst hfl
 obtain ⟨i,z,hi,hiz,hzz⟩:=Go.Eng.sH hz
 have hzc:z.cells.size=sz:=by rw [<-Array.length_toList,hzz];exact hzl
 have dD:∀ (ev:Operand->Value) (w:World) v w',(Builtin.clear_ c.argTypes o.type (c.args.map ev)).run P w= .ok v w'->(execOp ev o).run P w= .ok (.value v) w':=fun ev w v w' hv=>by
  simp only [execOp,ho,resolve,hc,invoke,builtin,Sem.run_bind,Sem.run_pure,Result.andThen_ok,hv]
 have dU:∀ V:Vw,den V xU (.tuple #[]):=fun V=>mU
 have nothing:k xU h=some r->(∀ V u,den V x u->∃ ad cap,u= .slice ad 0 cap)->∃ x_1 h',k x_1 h'=some r/\aM h.fl h h'/\((∀ p ∈ h'.fa,p)->∀ w0 V w (ev:Operand->Value),MR w0 V h w->(∀ q ∈ [(a,x)],den V q.2 (ev q.1))->(∀ v,ev (.const v)=v)->
   dw RM P w0 h.fl V h w x_1 h' ((execOp ev o).run P w)):=fun e hn=>⟨xU,h,e,.refl _ _,fun _ w0 V w ev hm hd _=>by
  obtain ⟨ad,cap,hv⟩:=hn V _ (hd (a,x) (by simp))
  have hv:ev a= .slice ad 0 cap:=hv
  rw [dD ev w (.tuple #[]) w (by cases ad<;>simp [Builtin.clear_,h2,h3,hv,run_underlying hu])]
  exact .pure hm (dU V)⟩
 have e0:ah (Nat.beq x.n 6) (k xU h) (ah (Nat.beq (Nat.land x.n 31) 8) (kS x.n fun b off len _=>ah (Nat.beq len 0) (k xU h) (kU b h fun bn e rows=>
   ah (Nat.beq e sz) (ah (Nat.beq (Nat.mod off e) 0) ((jZ (Nat.div off e)).f rows (rA ⟨Nat.add (Nat.mul 32 sz) 2,zs.map dK,oZ⟩ len) fun rows=>j6 b ⟨bn,rows,oZ⟩ h fun h=>k xU h) none) none)) none)=some r:=by
  have:=e
  unfold JQ at this
  simpa only [mI] using this
 rcases aF e0 with ⟨t,e1⟩|⟨_,e1⟩
 ·exact nothing e1 fun V u hd=>⟨none,0,(jX (by rw [aC t])).1 hd⟩
 ·obtain ⟨t,e2⟩:=aI e1
  have t:=bJ t
  have e3:=vv e2
  rcases aF e3 with ⟨t1,e4⟩|⟨t1,e4⟩
  ·refine nothing e4 fun V u hd=> ?_
   obtain ⟨_,cap,hv,_⟩:=(gT t).1 hd
   rw [aC t1] at hv
   exact ⟨_,cap,hv⟩
  ·have t1:=gq t1
   obtain ⟨bn,rows,hg,hk,e5⟩:=pU e4
   obtain ⟨t2,e6⟩:=aI e5
   have t2:=aC t2
   obtain ⟨t3,e7⟩:=aI e6
   have t3:x.n / 64 / 1048576 % 1048576 % (bn / 32)=0:=aC t3
   rw [Cn] at e7
   obtain ⟨hfit,e8⟩:=xH e7
   obtain ⟨vJ,hb',e9⟩:=xI e8
   refine ⟨xU,_,e9,.put vJ hb',fun _ w0 V w ev hm hd _=> ?_⟩
   obtain ⟨hb,cap,hv,g1,_,_⟩:=(gT t).1 (hd (a,x) (by simp))
   have hv:ev a=_:=hv
   obtain ⟨_,g3,_,_,g5,cells,cty,g6,g7,g8⟩:=hm.rows hb hg hk
   rw [t2] at t3 hfit g3
   have hoff:x.n / 64 / 1048576 % 1048576=Nat.div (x.n / 64 / 1048576 % 1048576) sz*sz:=by
    have:=Nat.div_add_mod' (x.n / 64 / 1048576 % 1048576) sz
    rw [t3] at this
    exact this.symm
   simp only [t2] at e9 ⊢
   clear e e0 e1 e2 e3 e4 e5 e6 e7 e8 nothing
   generalize x.n / 64 / 1048576 / 1048576=b at*
   generalize x.n / 64 / 1048576 % 1048576=off at*
   generalize x.n / 64 % 1048576=len at*
   generalize hq:Nat.div off sz=q at*
   rw [<-g3] at g5 g8
   rw [List.length_replicate] at hfit
   have hmul:(q+len)*sz<=rows.length*sz:=Nat.mul_le_mul_right _ hfit
   rw [Nat.add_mul] at hmul
   have hzs:(Builtin.zeroCells z.cells len).size=len*sz:=by rw [size_zeroCells,hzc]
   have yN:=vz z.cells len
   rw [hzc] at yN
   have hst:=run_storeCells_at P (V.ρ b) off cty (Builtin.zeroCells z.cells len).toList 0 cells w g6 (by rw [yN];omega) (alU hone hzz hpos hzc)
   simp only [Nat.add_zero,List.append_assoc] at hst
   rw [dD ev w (.tuple #[]) (w.setRow (V.ρ b) (Go.Eng.pasted cells off (Builtin.zeroCells z.cells len))) (by
    simp [Builtin.clear_,h2,h3,hv,run_underlying hu,zeroValue,typeInfo,hi,hiz,hst,Go.Eng.pasted])]
   have hR:bg V sz (List.replicate len ⟨Nat.add (Nat.mul 32 sz) 2,zs.map dK,oZ⟩) (Builtin.zeroCells z.cells len):=bg.zeros (mW hone) hzl fun k j hk hj=>by rw [Go.Eng.wM hzc hk hj,hzz]
   have hsp:=g8.splice (q:=q) hR (by rw [List.length_replicate];exact hfit) (by rw [List.length_replicate];exact hzs) (by rw [hzs];omega)
   rw [<-hoff] at hsp
   have hsp2:=Eq.subst (motive:=fun e=>bg V e _ _) g3 hsp
   have hps:=Go.Eng.jb cells off (Builtin.zeroCells z.cells len) (by rw [hzs];omega)
   obtain ⟨r1,r2⟩:=hm.turn (fl:=h.fl) (w':=w.setRow (V.ρ b) (Go.Eng.pasted cells off (Builtin.zeroCells z.cells len))) (o':=oZ) hb vJ hg hk (fun k hk=>Go.Eng.oP w _ k _ hk) (by simp) rfl rfl rfl
    (setRow_heap w (V.ρ b) cells _ cty (0,0) g6) (by rw [hps,g7]) (zR (by rw [List.length_replicate];exact hfit)) hsp2
   exact ⟨_,_,V,.inl rfl,r1,dU V,r2⟩
end
end
end Go.M
namespace Go.M
open Go
noncomputable section
variable [aY]
section
variable {P:Program} {fl:Nat} {o:Oper} {h:Hp}
theorem alW {ty ti el sz aP m:Nat} {q:IntKind} {i:TypeInfo} {z:Value} {s x:Operand} {c:Call} {ev:Operand->Value} {w:World} (hu:P.underlying ty=some (.slice el)) (hi:P.info? el=some i) (hiz:i.zero=some z) (his:i.size=sz) (hib:i.bytes=aP) (hsz:0<sz)
  (hti:P.underlying ti=some (.int q)) (hc:c.callee= .builtin .append) (h2:c.argTypes= #[ty,ti]) (h3:c.args= #[s,x]) (ho:o.op= .call c) (e1:ev s= .slice none 0 0) (e2:ev x= .int .i64 (Int.ofNat m)) (h0:0<m) (hb:m*aP<=140737488355328) (hm:m<1048576):
  (execOp ev o).run P w= .ok (.value (.slice (some ⟨w.heap.size,0,none⟩) m (grownCap w m 0 el))) (w.drew.alloc (.cells (Builtin.zeroCells z.cells m++Builtin.zeroCells z.cells (grownCap w m 0 el - m)) el)):=by
 obtain ⟨n,hn⟩:∃ n:Int,n=Int.ofNat m:=⟨_,rfl⟩
 have hnm:n.toNat=m:=by rw [hn];rfl
 have hnn:(n.toNat:Int)=n:=by rw [hnm,hn];rfl
 rw [<-hn] at e2
 subst hnm
 have hw:IntKind.i64.wrap n=n:=by rw [IntKind.wrap_i64];omega
 have c1:¬ n<0:=by omega
 have c2:¬ (281474976710656<n*(aP:Int)):=by
  have:((n.toNat*aP:Nat):Int)<=140737488355328:=by omega
  rw [Int.natCast_mul,hnn] at this;omega
 have c3:¬ n.toNat=0:=by omega
 have c3':¬ n<=0:=by omega
 have c4:¬ (9223372036854775807<max n 0):=by omega
 have c5:¬ (281474976710656<Builtin.nextslicecap n.toNat 0*aP):=by rw [nextslicecap_zero (by omega)];omega
 have c6:¬ (n.toNat*sz=0):=by
  have:=Nat.mul_pos (show 0<n.toNat by omega) hsz
  omega
 have hrun:(Builtin.append_ #[ty,ti] o.type #[ev s,ev x]).run P w=
   .ok (.slice (some ⟨w.heap.size,0,none⟩) n.toNat (grownCap w n.toNat 0 el)) (w.drew.alloc (.cells (Builtin.zeroCells z.cells n.toNat++Builtin.zeroCells z.cells (grownCap w n.toNat 0 el - n.toNat)) el)):=by
  rw [e1,e2]
  simp [Builtin.append_,run_underlying hu,run_underlying hti,sizeOf,typeInfo,zeroValue,hi,hiz,asInt,asIntOf,hw,c1,c2,c3',c4,c5,c6,his,hib,Question.forced,run_firstCells_none,newRow,grownCap]
 simp only [execOp,ho,resolve,hc,h2,h3,invoke,builtin,Sem.run_bind,Sem.run_pure,Result.andThen_ok,List.map_toArray,List.map_cons,List.map_nil,hrun]
theorem alX {ty ti el sz aP:Nat} {q:IntKind} {zs:List Value} {s x:Operand} {c:Call} {y u:X} (hE:Go.Eng.El P ty el sz aP zs) (hone:zs.all Value.oneCell'=true) (hti:P.underlying ti=some (.int q))
  (hc:c.callee= .builtin .append) (h2:c.argTypes= #[ty,ti]) (h3:c.args= #[s,x]) (ho:o.op= .call c):ig P fl o [(s,y),(x,u)] h (JP sz aP (zs.map dK) y u):=fun k r e=>by
 obtain ⟨i,z,hi,hiz,his,hib,hzc,hzl⟩:=hE.info
 have hsz:=hE.pos
 have e0:ah (Nat.beq y.n 6) (ah (Nat.beq (Nat.land u.n 31) 0) (ah (Nat.beq (Nat.shiftRight u.n 5) 0) none
   (ah (Nat.ble (Nat.shiftRight u.n 5) 1048575) (lK sz aP (rA ⟨Nat.add (Nat.mul 32 sz) 2,zs.map dK,oZ⟩ (Nat.shiftRight u.n 5)) h k) none)) none) none=some r:=by
  have:=e
  unfold JP at this
  simpa only [mI] using this
 obtain ⟨t1,e1⟩:=aI e0
 obtain ⟨t2,e2⟩:=aI e1
 have t2:=bJ t2
 have s1:Nat.shiftRight u.n 5=u.n / 32:=shr _ 5
 rw [s1,Cn] at e2
 rcases aF e2 with ⟨_,e3⟩|⟨t3,e3⟩
 ·cases e3
 ·obtain ⟨_,e4⟩:=aI e3
  have t3:=gq t3
  obtain ⟨hb1,hb2,hn,v,bo,e5,hx⟩:=ES e4
  rw [List.length_replicate] at hb1 hb2
  refine ⟨v,_,e5,.al _ _ _ hn,fun _ w0 V w ev hm hd _=> ?_⟩
  have d1:=(jX (by rw [aC t1])).1 (hd (s,y) (by simp))
  have d2:=(dO t2).1 (hd (x,u) (by simp))
  simp only at d1 d2
  generalize u.n / 32=m at*
  rw [alW hE.und hi hiz his hib hsz hti hc h2 h3 ho d1 d2 (Nat.pos_of_ne_zero t3) hb1 hb2]
  have hge:=grownCap_ge w m 0 el
  obtain ⟨w1,w2,w3⟩:=EU w (.cells (Builtin.zeroCells z.cells m++Builtin.zeroCells z.cells (grownCap w m 0 el - m)) el)
  have hR:bg V sz (List.replicate m ⟨Nat.add (Nat.mul 32 sz) 2,zs.map dK,oZ⟩) (Builtin.zeroCells z.cells m).toList.toArray:=
   bg.zeros (mW hone) hE.zl fun k j hk hj=>by rw [Array.toArray_toList,Go.Eng.wM hzc hk hj,hzl]
  have:=ET (P:=P) (bo:=bo) hn hx (vals:=(Builtin.zeroCells z.cells m).toList) (rest:=(Builtin.zeroCells z.cells (grownCap w m 0 el - m)).toList) (cap:=grownCap w m 0 el) (el:=el) hm hsz
   hR (by rw [vz,hzc,List.length_replicate]) (by rw [List.length_replicate];exact hge)
   (by rw [List.length_append,vz,vz,hzc,<-Nat.add_mul];congr 1;omega)
   (by rw [w1];congr 2;apply Array.ext';simp) w2 w3 rfl rfl rfl fl
  rw [List.length_replicate] at this
  exact this
end
end
end Go.M
namespace Go.M
open Go
noncomputable section
variable [aY]
section
variable {P:Program} {fl:Nat} {o:Oper} {h:Hp}
theorem alY {m n:Nat}:cnd (Nat.ble m n) m n=min n m:=by
 cases hb:Nat.ble m n with
 |true=>have:=bI hb;show m=_;omega
 |false=>have:=tJ hb;show n=_;omega
theorem alZ {ty el sz:Nat} {d a:Operand} {c:Call} {y x:X} (hu:P.underlying ty=some (.slice el)) (hs:Go.Eng.sizeP P el=some sz) (hsz:0<sz)
  (hc:c.callee= .builtin .copy) (h2:c.argTypes[0]? =some ty) (h3:c.args= #[d,a]) (ho:o.op= .call c) (hfl:fl=h.fl):ig P fl o [(d,y),(a,x)] h (Qs sz y x):=fun k r e=>by
 subst hfl
 have dD:∀ (ev:Operand->Value) (w:World) v w',(Builtin.copy_ c.argTypes o.type (c.args.map ev)).run P w= .ok v w'->(execOp ev o).run P w= .ok (.value v) w':=fun ev w v w' hv=>by
  simp only [execOp,ho,resolve,hc,invoke,builtin,Sem.run_bind,Sem.run_pure,Result.andThen_ok,hv]
 obtain ⟨ys,e0,hys⟩:=Cv (show pR sz x h _=some r from e)
 have e1:ah (Nat.beq y.n 6) (k (aK 0) h) (ah (Nat.beq (Nat.land y.n 31) 8) (kS y.n fun b off len _=>
  ah (Nat.beq (cnd (Nat.ble (di ys) len) (di ys) len) 0) (k (aK 0) h) ((takeB (cnd (Nat.ble (di ys) len) (di ys) len)).f ys fun zs=>kU b h fun bn e rows=>ah (Nat.beq e sz) (ah (Nat.beq (Nat.mod off e) 0)
   ((jZ (Nat.div off e)).f rows zs fun rows=>j6 b ⟨bn,rows,oZ⟩ h fun h=>k (aK (Nat.mul 32 (cnd (Nat.ble (di ys) len) (di ys) len))) h) none) none)) none)=some r:=by
  simpa only [mI] using e0
 have news:∀ {w0 V w} {ev:Operand->Value} (m:Nat),MR w0 V h w->(∀ q ∈ [(d,y),(a,x)],den V q.2 (ev q.1))->m<=ys.length->∃ (ad:Option Addr) (cap:Nat) (zv:List Value),ev a= .slice ad ys.length cap/\zv.length=m*sz/\(∀ v ∈ zv,one v)/\
   (Builtin.firstCells sz m (.slice ad ys.length cap)).run P w= .ok zv.toArray w/\bg V sz (ys.take m) zv.toArray:=fun {w0 V w ev} m hm hd hle=>by
  obtain ⟨vals,ad,cap,g1,g2,g3,g4,g5,g6⟩:=hys w0 V w _ hm (hd (a,x) (by simp))
  have hmul:m*sz<=ys.length*sz:=Nat.mul_le_mul_right _ hle
  have hzg:∀ (j:Nat) (v:Value),(vals.take (m*sz))[j]? =some v->vals[j]? =some v:=fun j v hj=>by
   rw [List.getElem?_take] at hj
   split at hj
   ·exact hj
   ·cases hj
  have hzl:(vals.take (m*sz)).length=m*sz:=by rw [List.length_take];omega
  refine ⟨ad,cap,vals.take (m*sz),g1,hzl,fun v hv=>g5 v (List.mem_of_mem_take hv),?_,fun q row hq=> ?_⟩
  ·cases ad with
   |none=>
    have h0:=g3 rfl
    have hm0:m=0:=by rw [h0] at hle;simpa using hle
    subst hm0
    simp [Builtin.firstCells]
   |some B=>exact run_firstCells_some w sz m B ys.length cap _ hzl (fun j v hj=>g4 B rfl j v (hzg j v hj))
  ·rw [List.getElem?_take] at hq
   split at hq
   ·rename_i hqm
    obtain ⟨k1,k2,k3⟩:=g6 q row hq
    refine ⟨k1,k2,fun j c hj=> ?_⟩
    obtain ⟨v,k4,k5⟩:=k3 j c hj
    refine ⟨v,?_,k5⟩
    have wO:j<sz:=by rw [<-k2];exact (List.getElem?_eq_some_iff.1 hj).1
    have:(q+1)*sz<=m*sz:=Nat.mul_le_mul_right _ hqm
    rw [Nat.add_mul,Nat.one_mul] at this
    rw [List.getElem?_toArray] at k4 ⊢
    rw [List.getElem?_take,if_pos (by omega)]
    exact k4
   ·cases hq
 have nothing:k (aK 0) h=some r->(∀ V u,den V y u->∃ ad len cap,u= .slice ad len cap/\min len ys.length=0)->∃ x_1 h',k x_1 h'=some r/\aM h.fl h h'/\((∀ p ∈ h'.fa,p)->∀ w0 V w (ev:Operand->Value),MR w0 V h w->(∀ q ∈ [(d,y),(a,x)],den V q.2 (ev q.1))->(∀ v,ev (.const v)=v)->
   dw RM P w0 h.fl V h w x_1 h' ((execOp ev o).run P w)):=fun e hn=>⟨aK 0,h,e,.refl _ _,fun _ w0 V w ev hm hd _=>by
  obtain ⟨ad0,len,cap0,hv,h0⟩:=hn V _ (hd (d,y) (by simp))
  have hv:ev d= .slice ad0 len cap0:=hv
  obtain ⟨ad,cap,zv,g1,g2,g3,g4,g5⟩:=news 0 hm hd (Nat.zero_le _)
  have hz0:zv=[]:=List.eq_nil_of_length_eq_zero (by rw [g2,Nat.zero_mul])
  subst hz0
  have hm2:min ys.length len=0:=by omega
  have hm1:Nat.min ys.length len=0:=hm2
  rw [dD ev w (.int .i64 (Int.ofNat 0)) w (by
   have hargs:c.args.map ev= #[ev d,ev a]:=by rw [h3];simp
   rw [hargs,hv,g1]
   cases ad0<;>simp [Builtin.copy_,h2,run_underlying hu,Builtin.lenOf,Go.Eng.cu hs,hm1,hm2,g4,storeCells,goInt])]
  exact .pure hm ((dO (x:=aK 0) rfl).2 rfl)⟩
 rcases aF e1 with ⟨t,e2⟩|⟨_,e2⟩
 ·exact nothing e2 fun V u hd=>⟨none,0,0,(jX (by rw [aC t])).1 hd,by simp⟩
 ·obtain ⟨t,e3⟩:=aI e2
  have t:=bJ t
  have e4:=vv e3
  simp only [alY,lM] at e4
  rcases aF e4 with ⟨t1,e5⟩|⟨t1,e5⟩
  ·refine nothing e5 fun V u hd=> ?_
   obtain ⟨_,cap,hv,_⟩:=(gT t).1 hd
   exact ⟨_,_,cap,hv,aC t1⟩
  ·have t1:=gq t1
   obtain ⟨_,e5⟩:=Cj e5
   obtain ⟨bn,rows,hg,hk,e5⟩:=pU e5
   obtain ⟨t2,e6⟩:=aI e5
   have t2:=aC t2
   obtain ⟨t3,e7⟩:=aI e6
   have t3:y.n / 64 / 1048576 % 1048576 % (bn / 32)=0:=aC t3
   obtain ⟨hfit,e8⟩:=xH e7
   obtain ⟨vJ,hb',e9⟩:=xI e8
   refine ⟨_,_,e9,.put vJ hb',fun _ w0 V w ev hm hd _=> ?_⟩
   obtain ⟨hb,cap0,hv,g1,_,_⟩:=(gT t).1 (hd (d,y) (by simp))
   have hv:ev d=_:=hv
   obtain ⟨_,g3,_,_,g5,cells,cty,g6,g7,g8⟩:=hm.rows hb hg hk
   rw [t2] at t3 hfit g3
   have hoff:y.n / 64 / 1048576 % 1048576=Nat.div (y.n / 64 / 1048576 % 1048576) sz*sz:=by
    have:=Nat.div_add_mod' (y.n / 64 / 1048576 % 1048576) sz
    rw [t3] at this
    exact this.symm
   simp only [t2] at e9 ⊢
   clear e e0 e1 e2 e3 e4 e5 e6 e7 e8 nothing
   generalize y.n / 64 / 1048576 / 1048576=b at*
   generalize y.n / 64 / 1048576 % 1048576=off at*
   generalize y.n / 64 % 1048576=len at*
   generalize hq:Nat.div off sz=q at*
   obtain ⟨m,hmm⟩:∃ m,m=min len ys.length:=⟨_,rfl⟩
   rw [<-hmm] at t1 hfit e9 ⊢
   obtain ⟨ad,cap,zv,n1,n2,n3,n4,n5⟩:=news m hm hd (by omega)
   rw [<-g3] at g5 g8
   have hyl:(ys.take m).length=m:=by rw [List.length_take];omega
   rw [hyl] at hfit
   have hmul:(q+m)*sz<=rows.length*sz:=Nat.mul_le_mul_right _ hfit
   rw [Nat.add_mul] at hmul
   have hzs:zv.toArray.size=m*sz:=by simpa using n2
   have hst:=run_storeCells_at P (V.ρ b) off cty zv 0 cells w g6 (by rw [n2];omega) n3
   simp only [Nat.add_zero,List.append_assoc] at hst
   have hm2:min ys.length len=m:=by omega
   have hm1:Nat.min ys.length len=m:=hm2
   rw [dD ev w (.int .i64 (Int.ofNat m)) (w.setRow (V.ρ b) (Go.Eng.pasted cells off zv.toArray)) (by
    have hargs:c.args.map ev= #[ev d,ev a]:=by rw [h3];simp
    rw [hargs,hv,n1]
    simp [Builtin.copy_,h2,run_underlying hu,Builtin.lenOf,Go.Eng.cu hs,hm1,hm2,n4,hst,Go.Eng.pasted,goInt])]
   have hsp:=g8.splice (q:=q) n5 (by rw [hyl];exact hfit) (by rw [hyl];exact hzs) (by rw [hzs];omega)
   rw [<-hoff] at hsp
   have hsp2:=Eq.subst (motive:=fun e=>bg V e _ _) g3 hsp
   have hps:=Go.Eng.jb cells off zv.toArray (by rw [hzs];omega)
   obtain ⟨r1,r2⟩:=hm.turn (fl:=h.fl) (w':=w.setRow (V.ρ b) (Go.Eng.pasted cells off zv.toArray)) (o':=oZ) hb vJ hg hk (fun k hk=>Go.Eng.oP w _ k _ hk) (by simp) rfl rfl rfl
    (setRow_heap w (V.ρ b) cells _ cty (0,0) g6) (by rw [hps,g7]) (zR (by rw [hyl];exact hfit)) hsp2
   refine ⟨_,_,V,.inl rfl,r1,(dO (x:=aK (Nat.mul 32 m)) (by show 32*m % 32=0;omega)).2 ?_,r2⟩
   show _=Value.int .i64 (Int.ofNat (32*m / 32))
   rw [Nat.mul_div_cancel_left _ (by decide)]
end
end
end Go.M
namespace Go.M
open Go
noncomputable section
variable [aY]
theorem CR (fr:FX) (l:Loc):∀ (as:List Ac) (k:List X->R),(pX as).f fr l k=k (as.map fun a=>a.g fr l)
 |[],k=>rfl
 |a::as,k=>by
  show (opn (a.g fr l) fun n m o=>(pX as).f fr l fun xs=>k (⟨n,m,o⟩::xs))=_
  rw [fo,CR fr l as,List.map_cons]
  generalize a.g fr l=y
  cases y;rfl
theorem Fx {V:Vw} {ev:Operand->Value}:∀ {cs:List Operand} {xs:List X},xs.length=cs.length->(∀ q ∈ cs.zip xs,den V q.2 (ev q.1))->aU V xs (cs.map ev)
 |[],[],_,_=>dA.2 rfl
 |c::cs,x::xs,h,hd=>dz.2 ⟨_,_,rfl,hd (c,x) (by simp),Fx (by simpa using h) fun q hq=>hd q (by simp [hq])⟩
section
variable {P:Program} {fl:Nat} {o:Oper} {h:Hp}
theorem al0 {f:Nat} {first caps:Array Operand} {xs:List X} (hf:first.size=0) (ho:o.op= .makeFunc (.func f) first caps) (hlt:f<1000000) (hxs:xs.length=caps.toList.length):
  eF P o (caps.toList.zip xs) h (fun h k=>k ⟨32*f+9,xs,oZ⟩ h):=fun k r e=>by
 refine ⟨_,h,e,fun fl=> .refl _ _,fun _ M fl w0 V w ev hm hd _=> ?_⟩
 have hv:=Fx hxs hd
 have e1:first.map ev= #[]:=by rw [Array.eq_empty_of_size_eq_zero hf];simp
 have e2:caps.map ev=(caps.toList.map ev).toArray:=by apply Array.ext';simp
 have hrun:(execOp ev o).run P w= .ok (.value (.func (.func f) #[] (caps.toList.map ev).toArray)) w:=by
  simp only [execOp,ho,Instr.makeFunc,e1,e2,Sem.run_bind,Sem.run_pure,Result.andThen_ok]
 rw [hrun]
 refine .pure hm ((xw (x:=⟨32*f+9,xs,oZ⟩) (by show (32*f+9) % 32=9;omega)).2 ⟨_,?_,hv⟩)
 show _=jC ((32*f+9) / 32) _
 rw [show (32*f+9) / 32=f by omega,jC,if_pos hlt]
theorem al1 {f:Nat} {first caps:Array Operand} {xs:List X} (hf:caps.size=0) (ho:o.op= .makeFunc (.func f) first caps) (hxs:xs.length=first.toList.length):
  eF P o (first.toList.zip xs) h (fun h k=>k ⟨32*(f+1000000)+9,xs,oZ⟩ h):=fun k r e=>by
 refine ⟨_,h,e,fun fl=> .refl _ _,fun _ M fl w0 V w ev hm hd _=> ?_⟩
 have hv:=Fx hxs hd
 have e1:caps.map ev= #[]:=by rw [Array.eq_empty_of_size_eq_zero hf];simp
 have e2:first.map ev=(first.toList.map ev).toArray:=by apply Array.ext';simp
 have hrun:(execOp ev o).run P w= .ok (.value (.func (.func f) (first.toList.map ev).toArray #[])) w:=by
  simp only [execOp,ho,Instr.makeFunc,e1,e2,Sem.run_bind,Sem.run_pure,Result.andThen_ok]
 rw [hrun]
 refine .pure hm ((xw (x:=⟨32*(f+1000000)+9,xs,oZ⟩) (by show (32*(f+1000000)+9) % 32=9;omega)).2 ⟨_,?_,hv⟩)
 show _=jC ((32*(f+1000000)+9) / 32) _
 rw [show (32*(f+1000000)+9) / 32=f+1000000 by omega,jC,if_neg (by omega),Nat.add_sub_cancel]
theorem al2 {ty el:TypeId} {a:Operand} {c:Call} {ev:Operand->Value} {w:World} {ad:Option Addr} {n q:Nat} (h1:P.underlying ty=some (.slice el))
  (hc:c.callee= .builtin .cap) (h2:c.argTypes[0]? =some ty) (h3:c.args[0]? =some a) (ho:o.op= .call c) (hv:ev a= .slice ad n q):(execOp ev o).run P w= .ok (.value (.int .i64 q)) w:=by
 have hrun:(Builtin.cap_ c.argTypes o.type (c.args.map ev)).run P w= .ok (.int .i64 q) w:=by
  simp [Builtin.cap_,h2,h3,hv,run_underlying h1,goInt]
 simp only [execOp,ho,resolve,hc,invoke,builtin,Sem.run_bind,Sem.run_pure,Result.andThen_ok,hrun]
theorem al3 {V:Vw} {n:Nat}:den V (aK (Nat.mul 32 n)) (.int .i64 (n:Int)):=by
 refine (dO (x:=aK (Nat.mul 32 n)) (by show 32*n % 32=0;omega)).2 ?_
 show _=Value.int .i64 (Int.ofNat (32*n / 32))
 rw [Nat.mul_div_cancel_left _ (by decide)];rfl
theorem al4 {ty el:TypeId} {a:Operand} {c:Call} {x:X} (h1:P.underlying ty=some (.slice el))
  (hc:c.callee= .builtin .cap) (h2:c.argTypes[0]? =some ty) (h3:c.args[0]? =some a) (ho:o.op= .call c):ig P fl o [(a,x)] h (Ke x):=fun k r e=>by
 have e0:ah (Nat.beq x.n 6) (k (aK 0) h) (ah (Nat.beq (Nat.land x.n 31) 8) (kS x.n fun b off len c=>ah (Nat.beq c 1) (k (aK (Nat.mul 32 len)) h)
   (kU b h fun bn e rows=>ah (Nat.beq (Nat.land bn 31) 1) (k (aK (Nat.mul 32 (Nat.div (Nat.sub (Nat.mul e (di rows)) off) e))) h) none)) none)=some r:=by
  have:=e
  unfold Ke at this
  simpa only [mI] using this
 have fin:∀ n:Nat,k (aK (Nat.mul 32 n)) h=some r->(∀ w0 V w u,MR w0 V h w->den V x u->∃ ad len,u= .slice ad len n)->∃ x_1 h',k x_1 h'=some r/\aM fl h h'/\((∀ p ∈ h'.fa,p)->∀ w0 V w (ev:Operand->Value),MR w0 V h w->(∀ q ∈ [(a,x)],den V q.2 (ev q.1))->(∀ v,ev (.const v)=v)->
   dw RM P w0 fl V h w x_1 h' ((execOp ev o).run P w)):=fun n e hn=>⟨_,h,e,.refl _ _,fun _ w0 V w ev hm hd _=>by
  obtain ⟨ad,len,hv⟩:=hn w0 V w _ hm (hd (a,x) (by simp))
  rw [al2 h1 hc h2 h3 ho hv]
  exact .pure hm al3⟩
 rcases aF e0 with ⟨t,e1⟩|⟨_,e1⟩
 ·exact fin 0 e1 fun w0 V w u hm hd=>⟨none,0,(jX (by rw [aC t])).1 hd⟩
 ·obtain ⟨t,e2⟩:=aI e1
  have t:=bJ t
  have e3:=vv e2
  rcases aF e3 with ⟨t1,e4⟩|⟨t1,e4⟩
  ·refine fin _ e4 fun w0 V w u hm hd=> ?_
   obtain ⟨_,cap,hv,_,g,_⟩:=(gT t).1 hd
   rw [g (aC t1)] at hv
   exact ⟨_,_,hv⟩
  ·have t1:x.n / 32 % 2=0:=by have:=gq t1;omega
   obtain ⟨bn,rows,hg,hk,e5⟩:=pU e4
   obtain ⟨t2,e6⟩:=aI e5
   have t2:=bJ t2
   rw [lM] at e6
   refine fin _ e6 fun w0 V w u hm hd=> ?_
   obtain ⟨hb,cap,hv,_,_,g⟩:=(gT t).1 hd
   have g:=g t1
   obtain ⟨_,g3,g4,g5,_⟩:=hm.rows hb hg hk
   have g5:=g5 t2
   rw [<-g3] at g g4 g5
   have hcap:cap=Nat.div (Nat.sub (Nat.mul (bn / 32) rows.length) (x.n / 64 / 1048576 % 1048576)) (bn / 32):=by
    show cap=(bn / 32*rows.length - x.n / 64 / 1048576 % 1048576) / (bn / 32)
    rw [Nat.mul_comm,g5,<-g,Nat.add_sub_cancel_left,Nat.mul_div_cancel _ g4]
   rw [hcap] at hv
   exact ⟨_,_,hv⟩
theorem al5 {ty el:TypeId} {n sz:Nat} {a:Operand} {ev:Operand->Value} {w:World} {g off:Nat} (h1:P.underlying ty=some (.array n el)) (h3:Go.Eng.sizeP P el=some sz) (h0:n≠0)
  (ho:o.op= .slice ty a none none none) (hx:ev a= .pointer (some ⟨g,off,none⟩)):(execOp ev o).run P w= .ok (.value (.slice (some ⟨g,off,none⟩) n n)) w:=by
 have hb:∀ w',(Instr.sliceBounds false n n none none none).run P w'= .ok (0,n,n) w':=fun w'=>by simp [Instr.sliceBounds]
 simp only [execOp,ho,hx,Instr.sliceAt,Instr.sureAddr,Option.map_none,Sem.run_bind,run_underlying h1,Sem.run_pure,Result.andThen_ok,hb,Go.Eng.cu h3,if_neg h0]
 simp [Go.Eng.add_plain]
theorem al6 {ty el:TypeId} {n sz:Nat} {a:Operand} {x:X} (h1:P.underlying ty=some (.array n el)) (h3:Go.Eng.sizeP P el=some sz)
  (ho:o.op= .slice ty a none none none):ig P fl o [(a,x)] h (Kg n sz x):=fun k r e=>by
 unfold Kg at e
 rcases aF e with ⟨_,e'⟩|⟨t0,e0⟩
 ·cases e'
 have t0:=gq t0
 obtain ⟨t,e1⟩:=xM e0
 obtain ⟨bn,rows,hg,hk,e2⟩:=pU e1
 obtain ⟨t2,e3⟩:=aI e2
 obtain ⟨t3,e4⟩:=aI e3
 obtain ⟨t4,e5⟩:=aI e4
 rw [lM] at t4
 have t2:=aC t2
 have t3:=bJ t3
 have t4:=aC t4
 obtain ⟨_,_,c,e6,hc⟩:=rJ e5 (by decide)
 refine ⟨c,h,e6,.refl _ _,fun _ w0 V w ev hm hd _=> ?_⟩
 obtain ⟨hb,hu⟩:=(mK t).1 (hd (a,x) (by simp))
 rw [al5 h1 h3 t0 ho hu]
 obtain ⟨_,g3,g4,g5,_⟩:=hm.rows hb hg hk
 refine .pure hm (hc V n hb (Nat.le_refl _) (fun hh=>by cases hh) (fun _=> ?_))
 rw [<-g5 t3,<-g3]
 have t4:x.n / 32 % 1048576+n*sz=rows.length*(bn / 32):=t4
 rw [<-t4,<-t2]
theorem al7 {ty:TypeId} {a i:Operand} {x y:X} (hu:P.underlying ty=some .string) (ho:o.op= .index ty a i):eF P o [(a,x),(i,y)] h (QW x y):=fun k r e=>by
 obtain ⟨u,hx,e1⟩:=rG (show pO x _=some r from e)
 cases u with
 |string s=>
  have e2:xE y s.data.toList.length (fun i=>om (.int .u8 (Int.ofNat (s.data.toList.getD i 0).toNat)) fun x=>k x h)=some r:=by
   simpa only [mI] using e1
  obtain ⟨n,hi1,hi2,e3⟩:=EN e2
  rw [xL] at e3
  refine ⟨_,h,e3,fun fl=> .refl _ _,fun _ M fl w0 V w ev hm hd _=> ?_⟩
  have hv:ev a= .string s:=jk hx (hd (a,x) (by simp))
  obtain ⟨q,hin⟩:=hi1.den (hd (i,y) (by simp))
  have hin:ev i= .int q (n:Int):=hin
  have hlt':n<s.data.size:=by simpa using hi2
  have hg:s[n]? =some (s.data.toList.getD n 0):=by
   rw [show s[n]? =s.data[n]? from rfl,Array.getElem?_eq_getElem hlt']
   simp [List.getD,hlt',Array.getElem?_eq_getElem hlt']
  have hrun:(execOp ev o).run P w= .ok (.value (.int .u8 (Int.ofNat (s.data.toList.getD n 0).toNat))) w:=by
   have h0:(0:Int)<=(n:Int):=Int.natCast_nonneg _
   simp only [execOp,ho,hv,hin,Instr.index,asIntOf,Sem.run_bind,Sem.run_pure,run_underlying hu,Result.andThen_ok,h0,if_true,Int.toNat_natCast,hg]
   rfl
  rw [hrun]
  exact .pure hm (mR rfl)
 |_=>cases e1
end
end
end Go.M
