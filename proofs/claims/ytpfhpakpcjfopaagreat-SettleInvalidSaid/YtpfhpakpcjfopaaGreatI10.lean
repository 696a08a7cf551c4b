/-
  Part of a proof: lemmas and definitions of this work.
  No condition.
-/
import Derived.Test.YtpfhpakpcjfopaaGreatI09
import Derived.LoopN
set_option linter.all false
set_option maxRecDepth 100000
set_option maxHeartbeats 8000000
namespace Go.M
open Go
open Go.Eng (SOp SOper SCode)
noncomputable section
variable [aY]
def Enters (P:Program) (f:FuncId):Prop:=∃ fn,P.funcs[f]? =some fn/\(fn.name== "runtime.NumGoroutine")=false/\fn.body.isNone=false
def iy (P:Program) (g:FuncId) (fc:FC):Prop:=∀ xs h k r,h.fl<=h.n->fc.f xs h k=some r->∃ x h',k x h'=some r/\aM h.fl h h'/\((∀ p ∈ h'.fa,p)->∀ w0 V w (vals:Array Value),MR w0 V h w->aU V xs vals.toList->
 Enters P g/\Calls P g vals w fun e w'=>∃ v V',e= .returned v/\MR w0 V' h' w'/\den V' x v/\Stp h.fl V h w V' w')
def gu (P:Program) (cl:Nat->FC):Prop:=∀ g,iy P g (cl g)
section
variable {P:Program} {cx:Cx} {ops:Array Oper} {o:Oper} {ol:OL} {en:En} {fr:FX} {l:Loc} {h:Hp} {k:Kc} {r:List Prop} {ih:En->FR}
theorem DX {f:Operand} {args:List Operand} (hs:Go.Eng.strip P o=some (.call f args)):∃ c,o.op= .call c/\c.callee= .value f/\c.args.toList=args:=by
 unfold Go.Eng.strip at hs
 repeat' split at hs
 all_goals first
  |(rename_i c hop _ _ hc;cases hs;exact ⟨c,hop,hc,rfl⟩)
  |(rename_i c hop _ hc;cases hs;exact ⟨c,hop,hc,rfl⟩)
  |(cases hs;done)
  |skip
theorem H7 {a:Act} {w:World} {c:Call} {f:Operand} {g:FuncId} {vs:Array Value} (hc:c.callee= .value f) (hf:a.eval f= .func (.func g) #[] vs) (ho:o.op= .call c) (hE:Enters P g):
  (execOp a.eval o).run P w= .ok (.enter g (c.args.map a.eval++vs)) w:=by
 obtain ⟨fn,h1,h2,h3⟩:=hE
 simp only [execOp,ho,resolve,hc,Deferred.ofValue,hf,Sem.run_bind,Sem.run_pure,Result.andThen_ok,invoke,callFunc,run_program,h1,h2,h3,Bool.false_eq_true,if_false,Array.empty_append]
theorem H8 {a:Act} {w:World} {c:Call} {f:Operand} {g:FuncId} {vs:Array Value} (hc:c.callee= .value f) (hf:a.eval f= .func (.func g) vs #[]) (ho:o.op= .call c) (hE:Enters P g):
  (execOp a.eval o).run P w= .ok (.enter g (vs++c.args.map a.eval)) w:=by
 obtain ⟨fn,h1,h2,h3⟩:=hE
 simp only [execOp,ho,resolve,hc,Deferred.ofValue,hf,Sem.run_bind,Sem.run_pure,Result.andThen_ok,invoke,callFunc,run_program,h1,h2,h3,Bool.false_eq_true,if_false,Array.append_empty]
theorem amC {V:Vw} {s:Ac} {u:Value} {ad:Option Addr} {n cap:Nat} (ht:(s.g fr l).n=6\/(s.g fr l).n % 32=8) (hd:den V (s.g fr l) u) (hu:u= .slice ad n cap):((zY s).g fr l).n % 32=0/\((zY s).g fr l).n / 32=n:=by
 have e:((zY s).g fr l).n=32*(cnd (Nat.beq (Nat.land (s.g fr l).n 31) 8) (Nat.land (Nat.shiftRight (s.g fr l).n 6) 1048575) 0):=rfl
 rw [e]
 refine ⟨by omega,?_⟩
 rw [Nat.mul_div_cancel_left _ (by decide)]
 rcases ht with ht|ht
 ·have:=(jX (by rw [ht])).1 hd
  rw [hu] at this
  cases this
  rw [ht];rfl
 ·obtain ⟨_,cap',h2,_⟩:=(gT ht).1 hd
  rw [hu] at h2
  cases h2
  rw [jD,ht]
  show Nat.land (Nat.shiftRight (s.g fr l).n 6) 1048575=_
  rw [Co,shr]
theorem amD {sz:Nat} {s lo hi:X} {kk:Kx} {r} (e:Ch sz s lo hi h kk=some r):s.n=6\/s.n % 32=8:=by
 obtain ⟨h1,e1⟩:=xN (show xG lo _=some r from e)
 obtain ⟨h2,e2⟩:=xN e1
 obtain ⟨_,e3⟩:=aI e2
 rcases aF e3 with ⟨t,_⟩|⟨_,e4⟩
 ·exact .inl (aC t)
 ·obtain ⟨t,_⟩:=aI e4
  exact .inr (bJ t)
def BA (cx:Cx) (en:En) (d:Option Ac) (x:Option Operand):Option Ac:= @Option.rec Operand (fun _=>Option Ac) d (fun y=>bN cx en y) x
theorem RO (hw:Wf cx en l) {V:Vw} {γ:Nat->Nat} {a:Act} (hT:iX (aX cx en fr l) V γ a (bB ol)) {d:Option Ac} {x:Option Operand} {b:Ac} (hb:BA cx en d x=some b) (hlk:∀ y,x=some y->∀ j ∈ bZ y,j ∈ bB ol) {n:Nat} (h0:x=none->(b.g fr l).n / 32=n) (ht:(b.g fr l).n % 32=0):
  vw n x a.eval ((b.g fr l).n / 32):=by
 cases x with
 |none=>exact .inl ⟨rfl,h0 rfl⟩
 |some y=>exact .inr ⟨y,rfl,(dO ht).1 (fI hw hT (hlk y rfl) hb)⟩
theorem amE (hL:fw P cx ops o ol) (hw:Wf cx en l) (hfn:h.fl<=h.n) {sz:Nat} {ty el:TypeId} {x:Operand} {lo hi mx:Option Operand} (hu:P.underlying ty=some (.slice el)) (hs:Go.Eng.sizeP P el=some sz) (ho:o.op= .slice ty x lo hi mx) (hop:ol.op= .slice sz x lo hi mx)
  (hd:∀ t,ol.dst=some t->mem cx.PV t=false) (e:(Kw sz x lo hi mx cx ol en ih).f fr l h k=some r):Out P cx ops o ol en fr l h ih k r:=by
 have hlk:∀ y ∈ aO ol.op,∀ j ∈ bZ y,j ∈ bB ol:=fun y hy=>rP hy
 have hx:∀ j ∈ bZ x,j ∈ bB ol:=hlk x (by rw [hop];simp [aO])
 have hlo:∀ y,lo=some y->∀ j ∈ bZ y,j ∈ bB ol:=fun y hy=>hlk y (by rw [hop,hy];simp [aO])
 have hhi:∀ y,hi=some y->∀ j ∈ bZ y,j ∈ bB ol:=fun y hy=>hlk y (by rw [hop,hy];simp [aO])
 have hmx:∀ y,mx=some y->∀ j ∈ bZ y,j ∈ bB ol:=fun y hy=>hlk y (by rw [hop,hy];simp [aO])
 have hc0:gG ol.op≠0:=by rw [hop];show (1:Nat)≠0;omega
 have hvp:(∃ ag sz x,ol.op= .load ag sz x)\/(∃ sz x y,ol.op= .store sz x y)->∀ v,ol.vp=some v->v=none:=fun hh=>by rcases hh with ⟨_,_,_,hh⟩|⟨_,_,_,hh⟩<;>rw [hop] at hh<;>cases hh
 unfold Kw at e
 obtain ⟨a,ha,e1⟩:=dZ (a:=bN cx en x) e
 obtain ⟨b,hb,e2⟩:=dZ (a:=BA cx en (some (EX (aK 0))) lo) e1
 have hb0:lo=none->(b.g fr l).n / 32=0:=fun hn=>by
  subst hn
  have:some (EX (aK 0))=some b:=hb
  cases this
  show ((ko 0 (.con (aK 0))).g fr l).n / 32=0
  rw [Fz]
  rfl
 have hbt:∀ {V γ a'},iX (aX cx en fr l) V γ a' (bB ol)->(b.g fr l).n % 32=0->vw 0 lo a'.eval ((b.g fr l).n / 32):=fun hT ht=>RO hw hT hb hlo hb0 ht
 cases mx with
 |none=>
  have e2':(oR (BA cx en (some (zY a)) hi) fun c=>gen cx ol en ih ⟨fun fr l h k=>Ch sz (a.g fr l) (b.g fr l) (c.g fr l) h k⟩).f fr l h k=some r:=e2
  obtain ⟨c,hc,e3⟩:=dZ e2'
  obtain ⟨y,h',g1,g2⟩:=Ah (Pr:=fun y h2=>h2=(if ol.bF then bO h.n h else h)/\((a.g fr l).n=6\/(a.g fr l).n % 32=8)/\(b.g fr l).n % 32=0/\(c.g fr l).n % 32=0/\(b.g fr l).n / 32<=(c.g fr l).n / 32/\
   ∀ w0 V w u,MR w0 V (if ol.bF then bO h.n h else h) w->den V (a.g fr l) u->∃ ad len cap,u= .slice ad len cap/\(c.g fr l).n / 32<=cap/\
    den V y (.slice (if cap=(b.g fr l).n / 32 then ad else ad.map (·.add ((b.g fr l).n / 32*sz))) ((c.g fr l).n / 32 - (b.g fr l).n / 32) (cap - (b.g fr l).n / 32))) e3 fun kk ek=>by
   have kz:Ch sz (a.g fr l) (b.g fr l) (c.g fr l) (if ol.bF then bO h.n h else h) kk=some r:=ek
   obtain ⟨q1,q2,q3,y,q4,q5⟩:=akv kz
   exact ⟨y,_,q4,rfl,amD kz,q1,q2,q3,q5⟩
  obtain ⟨b1,b2⟩:=Ag (fr:=fr) (ol:=ol) hw hd y
  have hh:h'=h:=by
   rcases g2 with ⟨h2,⟨h3,_⟩,h4,_⟩|⟨_,h4,_⟩
   ·subst h3;subst h4;split<;>rfl
   ·exact h4
  subst hh
  refine ⟨_,_,h',.heap h'.n,.val y,none,g1,b1,b2,.refl _ _,⟨hc0,hvp,.inl rfl,fun _=>hd⟩,(fun p off c e=>by cases e),fun hfa=>⟨rfl,y,rfl,fun w0 V γ w a' hm hT=> ?_⟩⟩
  rcases g2 with ⟨h2,⟨h3,h6,h7,h8,h9,h10⟩,h4,h5⟩|⟨rfl,h4,h5⟩
  ·have hm':MR w0 V (if ol.bF then bO h'.n h' else h') w:=by
    split
    ·exact hm.bO _
    ·exact hm
   obtain ⟨ad,len,cap,q1,q2,q3⟩:=h10 w0 V w _ hm' (fI hw hT hx ha)
   have hr:vw len hi a'.eval ((c.g fr l).n / 32):=RO hw hT hc hhi (fun hn=>by
    subst hn
    have:some (zY a)=some c:=hc
    cases this
    exact (amC h6 (fI hw hT hx ha) q1).2) h8
   exact nC hL hw hT h5 (tV (akt hu hs ho q1 (hbt hT h7) hr h9 q2) ⟨V,hm,q3,.refl ..⟩)
  ·exact vP hL hw hT h5 ⟨V,hm,mU,.refl ..⟩
 |some mx=>
  have e2':(oR hi fun hi=>oR (bN cx en hi) fun c=>oR (bN cx en mx) fun d=>gen cx ol en ih ⟨fun fr l h k=>EG sz (a.g fr l) (b.g fr l) (c.g fr l) (d.g fr l) h k⟩).f fr l h k=some r:=e2
  obtain ⟨hi',amF,e3⟩:=dZ e2'
  subst amF
  obtain ⟨c,hc,e4⟩:=dZ e3
  obtain ⟨d,hdd,e5⟩:=dZ e4
  obtain ⟨y,h',g1,g2⟩:=Ah (Pr:=fun y h2=>h2=(if ol.bF then bO h.n h else h)/\(b.g fr l).n % 32=0/\(c.g fr l).n % 32=0/\(d.g fr l).n % 32=0/\(b.g fr l).n / 32<=(c.g fr l).n / 32/\(c.g fr l).n / 32<=(d.g fr l).n / 32/\
   ∀ V u,den V (a.g fr l) u->∃ ad len cap,u= .slice ad len cap/\(d.g fr l).n / 32<=cap/\
    den V y (.slice (if (d.g fr l).n / 32=(b.g fr l).n / 32 then ad else ad.map (·.add ((b.g fr l).n / 32*sz))) ((c.g fr l).n / 32 - (b.g fr l).n / 32) ((d.g fr l).n / 32 - (b.g fr l).n / 32))) e5 fun kk ek=>by
   have kz:EG sz (a.g fr l) (b.g fr l) (c.g fr l) (d.g fr l) (if ol.bF then bO h.n h else h) kk=some r:=ek
   obtain ⟨q1,q2,q3,q4,q5,y,q6,q7⟩:=akw kz
   exact ⟨y,_,q6,rfl,q1,q2,q3,q4,q5,q7⟩
  obtain ⟨b1,b2⟩:=Ag (fr:=fr) (ol:=ol) hw hd y
  have hh:h'=h:=by
   rcases g2 with ⟨h2,⟨h3,_⟩,h4,_⟩|⟨_,h4,_⟩
   ·subst h3;subst h4;split<;>rfl
   ·exact h4
  subst hh
  refine ⟨_,_,h',.heap h'.n,.val y,none,g1,b1,b2,.refl _ _,⟨hc0,hvp,.inl rfl,fun _=>hd⟩,(fun p off c e=>by cases e),fun hfa=>⟨rfl,y,rfl,fun w0 V γ w a' hm hT=> ?_⟩⟩
  rcases g2 with ⟨h2,⟨h3,h6,h7,h8,h9,h10,h11⟩,h4,h5⟩|⟨rfl,h4,h5⟩
  ·obtain ⟨ad,len,cap,q1,q2,q3⟩:=h11 V _ (fI hw hT hx ha)
   exact nC hL hw hT h5 (tV (aku (lo:=hi') hu hs lo ho q1 (hbt hT h6) ((dO h7).1 (fI hw hT (hhi _ rfl) hc)) ((dO h8).1 (fI hw hT (hmx _ rfl) hdd)) h9 h10 q2) ⟨V,hm,q3,.refl ..⟩)
  ·exact vP hL hw hT h5 ⟨V,hm,mU,.refl ..⟩
theorem amG (a b:Nat):Nat.sub a b=a - b:=rfl
theorem FQ:∀ {args:List Operand} {as:List Ac},vC cx en args=some as->args.length=as.length/\∀ (i:Nat) (x:Operand),args[i]? =some x->∃ a,as[i]? =some a/\bN cx en x=some a
 |[],as,h=>by
  have:some []=some as:=h
  cases this
  exact ⟨rfl,fun i x hi=>by simp at hi⟩
 |x::args,as,h=>by
  have h': @Option.rec Ac (fun _=>Option (List Ac)) none (fun a=> @Option.rec (List Ac) (fun _=>Option (List Ac)) none (fun as=>some (a::as)) (vC cx en args)) (bN cx en x)=some as:=h
  cases e1:bN cx en x with
  |none=>rw [e1] at h';cases h'
  |some a=>
   rw [e1] at h'
   cases e2:vC cx en args with
   |none=>rw [e2] at h';cases h'
   |some as'=>
    rw [e2] at h'
    cases h'
    obtain ⟨g1,g2⟩:=FQ e2
    refine ⟨by simp [g1],fun i y hi=> ?_⟩
    cases i with
    |zero=>simp at hi;subst hi;exact ⟨a,rfl,e1⟩
    |succ i=>simpa using g2 i y (by simpa using hi)
theorem K9 {args:List Operand} {xs:List X} {q:Operand×X} (h:q ∈ args.zip xs):∃ i:Nat,args[i]? =some q.1/\xs[i]? =some q.2:=by
 obtain ⟨i,hi⟩:=List.mem_iff_getElem?.1 h
 rw [List.getElem?_zip_eq_some] at hi
 exact ⟨i,hi.1,hi.2⟩
theorem La (hw:Wf cx en l) {args:List Operand} {as:List Ac} (ha:vC cx en args=some as) (hlk:∀ x ∈ args,∀ j ∈ bZ x,j ∈ bB ol) {V:Vw} {γ:Nat->Nat} {a:Act} (hT:iX (aX cx en fr l) V γ a (bB ol)):
  ∀ q ∈ args.zip (as.map fun a=>a.g fr l),den V q.2 (a.eval q.1):=fun q hq=>by
 obtain ⟨i,h1,h2⟩:=K9 hq
 obtain ⟨g1,g2⟩:=FQ ha
 obtain ⟨ac,h3,h4⟩:=g2 i _ h1
 rw [List.getElem?_map,h3] at h2
 simp only [Option.map_some,Option.some.injEq] at h2
 rw [<-h2]
 exact fI hw hT (hlk _ (List.mem_iff_getElem?.2 ⟨i,h1⟩)) h4
theorem Lb {fl:Nat} (hcl:gu P cx.cl) {g:FuncId} {c:Call} {f:Operand} {first caps ys:List X} {args:List Operand} (ho:o.op= .call c) (hc:c.callee= .value f) (hargs:c.args.toList=args) (hy:ys.length=args.length) (hfn:h.fl<=h.n) (hfl:fl=h.fl) (zs:List (Operand×X))
  (hsub:∀ q ∈ args.zip ys,q ∈ zs) (hf:∀ V (a:Act),(∀ q ∈ zs,den V q.2 (a.eval q.1))->∃ us vs:List Value,aU V first us/\aU V caps vs/\((us=[]/\a.eval f= .func (.func g) #[] vs.toArray)\/(vs=[]/\a.eval f= .func (.func g) us.toArray #[]))):
  FK P fl o zs h (fun h k=>(cx.cl g).f (first++(ys++caps)) h k):=fun kk r e=>by
 subst hfl
 obtain ⟨x,h',h1,h2,h3⟩:=hcl g _ h kk r hfn e
 refine ⟨x,h',h1,h2,fun hfa w0 V w a hm hd=> ?_⟩
 obtain ⟨us,vs,d1,d2,oQ⟩:=hf V a hd
 have d3:=Fx (V:=V) (ev:=a.eval) hy fun q hq=>hd q (hsub q hq)
 have happ:∀ {xs ys:List X} {us vs:List Value},aU V xs us->aU V ys vs->aU V (xs++ys) (us++vs):=fun {xs ys us vs} h1 h2=>by
  induction xs generalizing us with
  |nil=>rw [dA.1 h1];exact h2
  |cons x xs ih=>
   obtain ⟨v,r,rfl,g1,g2⟩:=dz.1 h1
   exact dz.2 ⟨v,_,rfl,g1,ih g2⟩
 obtain ⟨hE,hcall⟩:=h3 hfa w0 V w (us++(args.map a.eval++vs)).toArray hm (by simpa using happ d1 (happ d3 d2))
 intro next K hn
 have hmap:c.args.map a.eval=(args.map a.eval).toArray:=by apply Array.ext';simp [<-hargs]
 unfold Oper.wp
 rcases oQ with ⟨rfl,oQ⟩|⟨rfl,oQ⟩
 ·rw [H7 hc oQ ho hE,Oper.upon_enter,hmap]
  have:(args.map a.eval).toArray++vs.toArray=([]++(args.map a.eval++vs)).toArray:=by simp
  rw [this]
  exact hcall.mono fun e w' ⟨v,V',he,g1,g2,g3⟩=>by subst he;exact hn v w' ⟨V',g1,g2,g3⟩
 ·rw [H8 hc oQ ho hE,Oper.upon_enter,hmap]
  have:us.toArray++(args.map a.eval).toArray=(us++(args.map a.eval++[])).toArray:=by simp
  rw [this]
  exact hcall.mono fun e w' ⟨v,V',he,g1,g2,g3⟩=>by subst he;exact hn v w' ⟨V',g1,g2,g3⟩
theorem amH {a:Ac} {as:List Ac} {kk:Kx} {r'} (ek:(uQ cx.cl a (pX as)).f fr l h kk=some r'):(a.g fr l).n % 32=9/\
  ((∃ g,(a.g fr l).n / 32=g+1000000/\(cx.cl g).f ((a.g fr l).l++as.map fun a=>a.g fr l) h kk=some r')\/((a.g fr l).n / 32<1000000/\(cx.cl ((a.g fr l).n / 32)).f ((as.map fun a=>a.g fr l)++(a.g fr l).l) h kk=some r')):=by
 unfold uQ at ek
 simp only [fo] at ek
 obtain ⟨t,e3⟩:=aI ek
 refine ⟨bJ t,?_⟩
 rw [mI,show Nat.shiftRight (a.g fr l).n 5=(a.g fr l).n / 32 from shr _ 5] at e3
 generalize (a.g fr l).n / 32=m at e3 ⊢
 rcases aF e3 with ⟨t1,e4⟩|⟨t1,e4⟩
 ·rcases aF e4 with ⟨_,e5⟩|⟨t2,e5⟩
  ·cases e5
  ·rw [mI,CR,Ck] at e5
   exact .inl ⟨_,by have:=bI t1;rw [amG];omega,e5⟩
 ·rw [CR,Ck] at e4
  exact .inr ⟨tJ t1,e4⟩
theorem amI (hcl:gu P cx.cl) (hL:fw P cx ops o ol) (hw:Wf cx en l) (hfn:h.fl<=h.n) {f:Operand} {args:List Operand} (hop:ol.op= .call f args)
  (hd:∀ t,ol.dst=some t->mem cx.PV t=false) (e:(Kz f args cx ol en ih).f fr l h k=some r):Out P cx ops o ol en fr l h ih k r:=by
 have hs:=hL.op
 rw [hop] at hs
 obtain ⟨c,ho,hc,hargs⟩:=DX hs
 have hlk:∀ y ∈ aO ol.op,∀ j ∈ bZ y,j ∈ bB ol:=fun y hy=>rP hy
 have hla:∀ x ∈ args,∀ j ∈ bZ x,j ∈ bB ol:=fun x hx=>hlk x (by rw [hop];simp [aO,hx])
 have hlf:∀ j ∈ bZ f,j ∈ bB ol:=hlk f (by rw [hop];simp [aO])
 have hc0:gG ol.op≠0:=by rw [hop];show (4:Nat)≠0;omega
 have hc3:true=true->3<=gG ol.op:=fun _=>by rw [hop];show 3<=4;omega
 have hvp:(∃ ag sz x,ol.op= .load ag sz x)\/(∃ sz x y,ol.op= .store sz x y)->∀ v,ol.vp=some v->v=none:=fun hh=>by rcases hh with ⟨_,_,_,hh⟩|⟨_,_,_,hh⟩<;>rw [hop] at hh<;>cases hh
 unfold Kz at e
 obtain ⟨as,has,e1⟩:=dZ (a:=vC cx en args) e
 have hlen:(as.map fun a=>a.g fr l).length=args.length:=by simp [(FQ has).1]
 have amJ:∀ a,bN cx en f=some a->(gen cx ol en ih (uQ cx.cl a (pX as))).f fr l h k=some r->Out P cx ops o ol en fr l h ih k r:=fun a ha e2=>by
  refine xX true hL hw hd hfn hc0 hc3 hvp (xs:=(f,a.g fr l)::args.zip (as.map fun a=>a.g fr l)) e2 (fun V γ a' hT q hq=> ?_) fun h1 fl Ak hf=> ?_
  ·rcases List.mem_cons.1 hq with rfl|hq
   ·exact fI hw hT hlf ha
   ·exact La hw has hla hT q hq
  ·intro kk r' ek
   obtain ⟨ht,hh⟩:=amH ek
   rcases hh with ⟨g,hg,e5⟩|⟨hg,e4⟩
   ·have hco:=Lb (o:=o) (cx:=cx) (h:=h1) (fl:=fl) hcl (g:=g) (first:=(a.g fr l).l) (caps:=[]) ho hc hargs hlen Ak (hf rfl) ((f,a.g fr l)::args.zip (as.map fun a=>a.g fr l)) (fun q hq=>List.mem_cons_of_mem _ hq) fun V a' hd'=>by
     obtain ⟨vs,hv,hl⟩:=(xw ht).1 (hd' (f,a.g fr l) (by simp))
     refine ⟨vs,[],hl,dA.2 rfl,.inr ⟨rfl,?_⟩⟩
     have hv:a'.eval f=jC ((a.g fr l).n / 32) vs.toArray:=hv
     rw [hv,hg,jC,if_neg (by omega),Nat.add_sub_cancel]
    rw [List.append_nil] at hco
    exact hco kk r' e5
   ·have hco:=Lb (o:=o) (cx:=cx) (h:=h1) (fl:=fl) hcl (g:=(a.g fr l).n / 32) (first:=[]) (caps:=(a.g fr l).l) ho hc hargs hlen Ak (hf rfl) ((f,a.g fr l)::args.zip (as.map fun a=>a.g fr l)) (fun q hq=>List.mem_cons_of_mem _ hq) fun V a' hd'=>by
     obtain ⟨vs,hv,hl⟩:=(xw ht).1 (hd' (f,a.g fr l) (by simp))
     refine ⟨[],vs,dA.2 rfl,hl,.inl ⟨rfl,?_⟩⟩
     have hv:a'.eval f=jC ((a.g fr l).n / 32) vs.toArray:=hv
     rw [hv,jC,if_pos hg]
    exact hco kk r' e4
 have Lc:(oR (bN cx en f) fun a=>gen cx ol en ih (uQ cx.cl a (pX as))).f fr l h k=some r->Out P cx ops o ol en fr l h ih k r:=fun e1=>by
  obtain ⟨a,ha,e2⟩:=dZ e1
  exact amJ a ha e2
 cases f with
 |func g=>
  have e2:(gen cx ol en ih ⟨fun fr l h k=>(pX as).f fr l fun xs=>(cx.cl g).f xs h k⟩).f fr l h k=some r:=e1
  refine xX true hL hw hd hfn hc0 hc3 hvp (xs:=args.zip (as.map fun a=>a.g fr l)) e2 (fun V γ a' hT q hq=>La hw has hla hT q hq) fun h1 fl Ak hf=> ?_
  intro kk r' ek
  have kz:(pX as).f fr l (fun xs=>(cx.cl g).f xs h1 kk)=some r':=ek
  rw [CR] at kz
  have hco:=Lb (o:=o) (cx:=cx) (h:=h1) (fl:=fl) hcl (g:=g) (first:=[]) (caps:=[]) ho hc hargs hlen Ak (hf rfl) (args.zip (as.map fun a=>a.g fr l)) (fun q hq=>hq) fun V a' hd'=>⟨[],[],dA.2 rfl,dA.2 rfl,.inl ⟨rfl,rfl⟩⟩
  rw [List.append_nil] at hco
  exact hco kk r' kz
 |tmp j=>exact Lc e1
 |const v=>exact Lc e1
 |global g=>exact Lc e1
end
end
end Go.M
namespace Go.M
open Go
open Go.Eng (SOp SOper SCode)
noncomputable section
variable [aY]
section
variable {P:Program} {cx:Cx} {ops:Array Oper} {o:Oper} {ol:OL} {en:En} {fr:FX} {l:Loc} {h:Hp} {k:Kc} {r:List Prop} {ih:En->FR}
theorem Ld {α β:Type} {f:α->Option β}:∀ {xs:List α} {ys:List β},vE f xs=some ys->xs.length=ys.length/\∀ (i:Nat) (x:α),xs[i]? =some x->∃ y,ys[i]? =some y/\f x=some y
 |[],ys,h=>by simp [vE] at h;subst h;exact ⟨rfl,fun i x hi=>by simp at hi⟩
 |x::xs,ys,h=>by
  unfold vE at h
  split at h
  ·rename_i y r' hy hr
   cases h
   obtain ⟨g1,g2⟩:=Ld hr
   refine ⟨by simp [g1],fun i z hi=> ?_⟩
   cases i with
   |zero=>simp at hi;subst hi;exact ⟨y,rfl,hy⟩
   |succ i=>simpa using g2 i z (by simpa using hi)
  ·cases h
theorem FT {x:Operand} (hx:x ∈ aO ol.op):∀ j ∈ bZ x,j ∈ bB ol:=rP hx
theorem lS {so:SOp} (hop:ol.op=so) (h1:∀ ag sz x,so≠.load ag sz x) (h2:∀ sz x y,so≠.store sz x y):(∃ ag sz x,ol.op= .load ag sz x)\/(∃ sz x y,ol.op= .store sz x y)->∀ v,ol.vp=some v->v=none:=fun hh=>by
 rcases hh with ⟨a,b,c,hh⟩|⟨a,b,c,hh⟩
 ·exact absurd (hop.symm.trans hh) (h1 a b c)
 ·exact absurd (hop.symm.trans hh) (h2 a b c)
theorem RP (hL:fw P cx ops o ol) (hw:Wf cx en l) {zs:List Value} {ps:List (Nat×Nat×Operand)} (hop:ol.op= .build zs ps) (hd:∀ t,ol.dst=some t->mem cx.PV t=false)
  (e:(Kq zs ps cx ol en ih).f fr l h k=some r)
  (hcore:zs.all Value.oneCell'=true->∀ (xs:List X) h1,xs.length=ps.length->eF P o ((ps.map (·.2.2)).zip xs) h1 (fun h k=>xV ((ps.zip xs).map fun p=>(p.1.1,p.1.2.1,p.2)) (zs.map dK) fun c=>k ⟨32*zs.length+2,c,oZ⟩ h)):Out P cx ops o ol en fr l h ih k r:=by
 unfold Kq at e
 obtain ⟨hone,e⟩:=nG e
 rw [vQ] at e
 obtain ⟨ps',hps,e1⟩:=dZ (a:=vE _ ps) e
 obtain ⟨m1,m2⟩:=Ld hps
 let xs:List X:=ps'.map fun p=>p.2.2.g fr l
 have hget:∀ (i:Nat) (p:Nat×Nat×Operand),ps[i]? =some p->∃ ac,ps'[i]? =some (p.1,p.2.1,ac)/\bN cx en p.2.2=some ac:=fun i p hp=>by
  obtain ⟨y,h1,h2⟩:=m2 i p hp
  cases ha:bN cx en p.2.2 with
  |none=>rw [ha] at h2;cases h2
  |some ac=>rw [ha] at h2;cases h2;exact ⟨ac,h1,rfl⟩
 have heq:(ps'.map fun p=>(p.1,p.2.1,p.2.2.g fr l))=(ps.zip xs).map fun p=>(p.1.1,p.1.2.1,p.2):=by
  apply List.ext_getElem?
  intro i
  simp only [List.getElem?_map]
  cases hp:ps[i]? with
  |none=>
   have h1:ps'[i]? =none:=by rw [List.getElem?_eq_none_iff] at hp ⊢;omega
   have h2:(ps.zip xs)[i]? =none:=by rw [List.getElem?_eq_none_iff] at hp ⊢;simp;omega
   rw [h1,h2];rfl
  |some p=>
   obtain ⟨ac,h1,_⟩:=hget i p hp
   have h2:(ps.zip xs)[i]? =some (p,ac.g fr l):=by rw [List.getElem?_zip_eq_some];exact ⟨hp,by simp [xs,h1]⟩
   rw [h1,h2];rfl
 refine CX hL hw hd (xs:=(ps.map (·.2.2)).zip xs) e1 (fun V γ a hT q hq=> ?_) fun h1 kk r' ek=> ?_
 ·obtain ⟨i,h1,h2⟩:=K9 hq
  simp only [List.getElem?_map,Option.map_eq_some_iff] at h1
  obtain ⟨p,hp,hpq⟩:=h1
  obtain ⟨ac,h3,h4⟩:=hget i p hp
  simp only [xs,List.getElem?_map,h3,Option.map_some,Option.some.injEq] at h2
  rw [<-h2,<-hpq]
  exact fI hw hT (FT (by rw [hop];exact List.mem_map.2 ⟨p,List.mem_iff_getElem?.2 ⟨i,hp⟩,rfl⟩)) h4
 ·have kz:(E5 ps').f fr l (lN zs) (fun c=>kk ⟨32*zs.length+2,c,oZ⟩ h1)=some r':=ek
  rw [Q8,heq] at kz
  exact hcore hone xs h1 (by simp [xs,m1]) kk r' kz
theorem RQ (hL:fw P cx ops o ol) (hw:Wf cx en l) (hfn:h.fl<=h.n) {ty el:TypeId} {len sz:Nat} {zs:List Value} {parts:Array (Nat×Operand)} (hu:P.underlying ty=some (.slice el)) (hz:Go.Eng.zerosOf P el=some zs) (hs:Go.Eng.sizeP P el=some sz) (hzl:zs.length=sz) (hpos:0<sz) (hmax:len*sz<=16777216)
  (hone:zs.all Value.oneCell'=true) (ho:o.op= .buildSlice ty len parts) (hop:ol.op= .iJ el sz zs len parts.toList) (hd:∀ t,ol.dst=some t->mem cx.PV t=false)
  (e:(Kr sz zs len parts.toList cx ol en ih).f fr l h k=some r):CY P cx ops o ol en fr l h ih k r:=by
 unfold Kr at e
 obtain ⟨_,e⟩:=nG e
 rw [vQ] at e
 obtain ⟨ps',hps,e1⟩:=dZ (a:=vE _ parts.toList) e
 obtain ⟨m1,m2⟩:=Ld hps
 let xs:List X:=ps'.map fun p=>p.2.g fr l
 have hget:∀ (i:Nat) (p:Nat×Operand),parts.toList[i]? =some p->∃ ac,ps'[i]? =some (p.1,ac)/\bN cx en p.2=some ac:=fun i p hp=>by
  obtain ⟨y,h1,h2⟩:=m2 i p hp
  cases ha:bN cx en p.2 with
  |none=>rw [ha] at h2;cases h2
  |some ac=>rw [ha] at h2;cases h2;exact ⟨ac,h1,rfl⟩
 have heq:(ps'.map fun p=>(p.1,p.2.g fr l))=(parts.toList.zip xs).map fun p=>(p.1.1,p.2):=by
  apply List.ext_getElem?
  intro i
  simp only [List.getElem?_map]
  cases hp:parts.toList[i]? with
  |none=>
   have h1:ps'[i]? =none:=by rw [List.getElem?_eq_none_iff] at hp ⊢;omega
   have h2:(parts.toList.zip xs)[i]? =none:=by rw [List.getElem?_eq_none_iff] at hp ⊢;rw [List.length_zip];omega
   rw [h1,h2];rfl
  |some p=>
   obtain ⟨ac,h1,_⟩:=hget i p hp
   have h2:(parts.toList.zip xs)[i]? =some (p,ac.g fr l):=by rw [List.getElem?_zip_eq_some];exact ⟨hp,by simp [xs,h1]⟩
   rw [h1,h2];rfl
 refine amk hL hw hd hfn (by rw [hop];show (2:Nat)≠0;omega) (lS hop (by simp) (by simp)) (xs:=(parts.toList.map (·.2)).zip xs) e1 (fun V γ a hT q hq=> ?_) fun h1 kk r' ek=> ?_
 ·obtain ⟨i,h1,h2⟩:=K9 hq
  simp only [List.getElem?_map,Option.map_eq_some_iff] at h1
  obtain ⟨p,hp,hpq⟩:=h1
  obtain ⟨ac,h3,h4⟩:=hget i p hp
  simp only [xs,List.getElem?_map,h3,Option.map_some,Option.some.injEq] at h2
  rw [<-h2,<-hpq]
  exact fI hw hT (FT (by rw [hop];exact List.mem_map.2 ⟨p,List.mem_iff_getElem?.2 ⟨i,hp⟩,rfl⟩)) h4
 ·have kz:(E8 sz ps').f fr l (rA ⟨32*sz+2,lN zs,oZ⟩ len) (fun rows=>aJ (Nat.add (Nat.mul 32 sz) 1) fun e=>oq ⟨e,rows,oZ⟩ h1 fun b h=>gZ b 0 len 0 h kk)=some r':=ek
  rw [Q9,heq] at kz
  exact alQ (xs:=xs) hu hz hs hzl hpos hmax ho hone (by simp [xs,m1]) kk r' kz
theorem RS (hL:fw P cx ops o ol) (hw:Wf cx en l) {f:Nat} {lim:Bool} {cs:List Operand} (hsub:∀ x ∈ cs,x ∈ aO ol.op) (hd:∀ t,ol.dst=some t->mem cx.PV t=false)
  (e:(Ff f lim cs cx ol en ih).f fr l h k=some r) (hcore:lim=true->∀ (xs:List X) h1,xs.length=cs.length->eF P o (cs.zip xs) h1 (fun h k=>k ⟨32*f+9,xs,oZ⟩ h)):Out P cx ops o ol en fr l h ih k r:=by
 unfold Ff at e
 obtain ⟨hlim,e⟩:=nG e
 obtain ⟨as,has,e1⟩:=dZ (a:=vC cx en cs) e
 refine CX hL hw hd (xs:=cs.zip (as.map fun a=>a.g fr l)) e1 (fun V γ a hT=>La hw has (fun x hx=>FT (hsub x hx)) hT) fun h1 kk r' ek=> ?_
 have kz:(pX as).f fr l (fun xs=>kk ⟨32*f+9,xs,oZ⟩ h1)=some r':=ek
 rw [CR] at kz
 exact hcore hlim _ h1 (by simp [(FQ has).1]) kk r' kz
end
end
end Go.M
namespace Go.M
open Go
open Go.Eng (SOp SOper SCode)
noncomputable section
variable [aY]
section
variable {P:Program} {cx:Cx} {ops:Array Oper} {o:Oper} {ol:OL} {en:En} {fr:FX} {l:Loc} {h:Hp} {k:Kc} {r:List Prop} {ih:En->FR}
theorem RU (hcl:gu P cx.cl) (hL:fw P cx ops o ol) (hw:Wf cx en l) (hfn:h.fl<=h.n) (e:(plan ol.op cx ol en ih).f fr l h k=some r):Out P cx ops o ol en fr l h ih k r:=by
 have hs:=hL.op
 have hdn:ow ol.op=false->∀ t,ol.dst=some t->mem cx.PV t=false:=fun hi t ht=>by
  cases hm:mem cx.PV t with
  |false=>rfl
  |true=>rw [hL.pv t ht hm] at hi;cases hi
 have lk:∀ x,x ∈ aO ol.op->∀ j ∈ bZ x,j ∈ bB ol:=fun x hx=>FT hx
 generalize hop:ol.op=so at e hs
 rw [hop] at hdn lk
 unfold Go.Eng.strip at hs
 split at hs
 ·rename_i x ho;cases hs;exact RA hL hw hop (.inl ho) (hdn rfl) e
 ·rename_i x ho;cases hs;exact RA hL hw hop (.inr ho) (hdn rfl) e
 ·rename_i c x y ho;cases hs
  exact aml hL hw (hdn rfl) e (lk c (by simp [aO])) (lk x (by simp [aO])) (lk y (by simp [aO])) fun u v s h1=>aj0 ho
 ·rename_i el ho
  split at hs
  ·rename_i zs hz;cases hs;exact amw hL hw hfn hz ho hop e
  ·cases hs
 ·rename_i el x ho;cases hs;exact amx hL hw hfn ho hop e
 ·rename_i ty parts ho
  split at hs
  ·rename_i fs hu
   split at hs
   ·rename_i zs hz
    split at hs
    ·rename_i ps hps
     split at hs
     ·rename_i hall
      cases hs
      exact RP hL hw hop (hdn rfl) e fun hone xs h1 hxs=>alO hu hz hps (fun f hf=>List.all_eq_true.1 hall f hf) ho hone rfl hxs
     ·cases hs
    ·cases hs
   ·cases hs
  ·rename_i n el hu
   split at hs
   ·rename_i zs hz
    split at hs
    ·rename_i sz hsz
     cases hs
     refine RP hL hw hop (hdn rfl) e fun hone xs h1 hxs=> ?_
     have:=alP (h:=h1) (xs:=xs) hu hz hsz ho hone rfl (by simpa using hxs)
     have e1:(parts.toList.map fun p=>(p.1*sz,sz,p.2)).map (·.2.2)=parts.toList.map (·.2):=by rw [List.map_map];rfl
     have e2:((parts.toList.map fun p=>(p.1*sz,sz,p.2)).zip xs).map (fun p=>(p.1.1,p.1.2.1,p.2))=(parts.toList.zip xs).map fun p=>(p.1.1*sz,sz,p.2):=by rw [List.zip_map_left,List.map_map];rfl
     rw [e1,e2];exact this
    ·cases hs
   ·cases hs
  ·cases hs
 ·rename_i ty len parts ho
  split at hs
  ·rename_i el hu
   split at hs
   ·rename_i zs hz
    split at hs
    ·rename_i sz hsz
     split at hs
     ·rename_i hc
      cases hs
      exact (RQ hL hw hfn hu hz hsz hc.1 hc.2.1 hc.2.2.1 hc.2.2.2 ho hop (hdn rfl) e).out
     ·cases hs
    ·cases hs
   ·cases hs
  ·cases hs
 ·rename_i ty x ho
  split at hs
  ·rename_i ag ha
   split at hs
   ·rename_i sz hsz;cases hs;exact ams hL hw hfn ha hsz ho hop (hdn rfl) e
   ·cases hs
  ·cases hs
 ·rename_i ty x y ho
  split at hs
  ·rename_i sz hsz;cases hs;exact amt hL hw hfn hsz ho hop (hdn rfl) e
  ·cases hs
 ·rename_i x ho;cases hs;exact amo hL hw ho hop (hdn rfl) e
 ·rename_i op ty x y ty' ho
  have bin:∀ iA,iA=SOp.bin op x y->so=iA->Out P cx ops o ol en fr l h ih k r:=fun iA h1 h2=>by
   subst h2;subst h1
   exact qc hL hw (hdn rfl) e (lk x (by simp [aO])) (lk y (by simp [aO])) fun u v h1=>akg op ho
  split at hs
  ·rename_i fs hu
   split at hs
   ·rename_i ks hk
    split at hs
    ·rename_i hc
     split at hs
     ·cases hs
      exact qc hL hw (hdn rfl) e (lk x (by simp [aO])) (lk y (by simp [aO])) fun u v h1=>RN (neg:=false) hu hk hc.1 hc.2 ho
     ·cases hs
      exact qc hL hw (hdn rfl) e (lk x (by simp [aO])) (lk y (by simp [aO])) fun u v h1=>RN (neg:=true) hu hk hc.1 hc.2 ho
     ·cases hs
    ·cases hs
   ·cases hs;cases e
  ·exact bin _ rfl (Option.some.inj hs).symm
  ·exact bin _ rfl (Option.some.inj hs).symm
  ·rename_i hu
   split at hs
   ·cases hs;exact qc hL hw (hdn rfl) e (lk x (by simp [aO])) (lk y (by simp [aO])) fun u v h1=>QC (neg:=false) hu ho
   ·cases hs;exact qc hL hw (hdn rfl) e (lk x (by simp [aO])) (lk y (by simp [aO])) fun u v h1=>QC (neg:=true) hu ho
   ·cases hs
  ·rename_i el hu
   split at hs
   ·cases hs;exact nD hL hw (hdn rfl) e (lk x (by simp [aO])) fun u h1=>QD (neg:=false) hu ho
   ·cases hs;exact nD hL hw (hdn rfl) e (lk x (by simp [aO])) fun u h1=>QD (neg:=true) hu ho
   ·cases hs
  ·cases hs
 ·rename_i op ty x ho
  cases hs
  have e':(KA op x cx ol en ih).f fr l h k=some r:=e
  unfold KA at e'
  split at e'
  ·exact nD hL hw (hdn rfl) e' (lk x (by simp [aO])) fun u h1=>aj1 ho
  ·exact nD hL hw (hdn rfl) e' (lk x (by simp [aO])) fun u h1=>aj2 ho
  ·cases e'
 ·rename_i src dst x ho
  split at hs
  ·rename_i k0 q h1 h2;cases hs
   have e':(KC q x cx ol en ih).f fr l h k=some r:=e
   unfold KC at e'
   split at e'
   ·exact nD hL hw (hdn rfl) e' (lk x (by simp [aO])) fun u h1'=>akh h1 h2 ho
   ·exact nD hL hw (hdn rfl) e' (lk x (by simp [aO])) fun u h1'=>JY h1 h2 ho
  ·split at hs
   ·cases hs;cases e
   ·cases hs
  ·rename_i el h1 h2
   split at hs
   ·rename_i h3;cases hs
    exact Aj false hL hw (hdn rfl) hfn (by rw [hop];show (1:Nat)≠0;omega) (fun h=>by cases h) (lS hop (by simp) (by simp)) e (lk x (by simp [aO])) fun u h1' fl _=>al9 h1 h3 h2 ho
   ·cases hs
  ·cases hs
 ·rename_i f first caps ho
  split at hs
  ·rename_i hf;cases hs
   exact RS hL hw (fun x hx=>by rw [hop];exact hx) (hdn rfl) e fun hlim xs h1 hxs=>al0 hf ho (by simpa [Nat.blt_eq] using hlim) hxs
  ·split at hs
   ·rename_i hf;cases hs
    exact RS hL hw (fun x hx=>by rw [hop];exact hx) (hdn rfl) e fun hlim xs h1 hxs=>al1 hf ho hxs
   ·cases hs
 ·rename_i ty ho;cases hs
  exact xX false hL hw (hdn rfl) hfn (by rw [hop];show (2:Nat)≠0;omega) (fun h=>by cases h) (lS hop (by simp) (by simp)) (xs:=[]) e (fun V γ a hT q hq=>by simp at hq) fun h1 fl _ _=> .of (alT ho)
 ·rename_i ty m kx ho
  split at hs
  ·rename_i kt et hu
   split at hs
   ·rename_i kk z hk hz
    cases hs
    have e':(Aa false z m kx cx ol en ih).f fr l h k=some r:=e
    unfold Aa at e'
    obtain ⟨hz1,e1⟩:=nG e'
    rw [vQ] at e1
    refine xY false hL hw (hdn rfl) hfn (by rw [hop];show (1:Nat)≠0;omega) (fun h=>by cases h) (lS hop (by simp) (by simp)) e1 (lk m (by simp [aO])) (lk kx (by simp [aO])) fun u v h1' fl _=>alM hu hk ?_ hz1 ho
    unfold Go.Eng.zeroVal at hz
    split at hz
    ·rename_i i hi;exact ⟨i,hi,hz⟩
    ·cases hz
   ·cases hs
  ·cases hs
 ·rename_i ty m kx ho
  split at hs
  ·rename_i kt et hu
   split at hs
   ·rename_i kk z hk hz
    cases hs
    have e':(Aa true z m kx cx ol en ih).f fr l h k=some r:=e
    unfold Aa at e'
    obtain ⟨hz1,e1⟩:=nG e'
    rw [vQ] at e1
    refine xY false hL hw (hdn rfl) hfn (by rw [hop];show (1:Nat)≠0;omega) (fun h=>by cases h) (lS hop (by simp) (by simp)) e1 (lk m (by simp [aO])) (lk kx (by simp [aO])) fun u v h1' fl _=>alN hu hk ?_ hz1 ho
    unfold Go.Eng.zeroVal at hz
    split at hz
    ·rename_i i hi;exact ⟨i,hi,hz⟩
    ·cases hz
   ·cases hs
  ·cases hs
 ·rename_i ty m kx x ho
  split at hs
  ·rename_i kt et hu
   split at hs
   ·rename_i kk hk;cases hs
    exact Ry true hL hw (hdn rfl) hfn (by rw [hop];show (3:Nat)≠0;omega) (fun _=>by rw [hop];exact Nat.le_refl 3) (lS hop (by simp) (by simp)) e (lk m (by simp [aO])) (lk kx (by simp [aO])) (lk x (by simp [aO])) fun u v s h1' fl hf=>Rj hu hk (.inl ho) (hf rfl)
   ·cases hs
  ·cases hs
 ·rename_i ty m kx x ho
  split at hs
  ·rename_i kt et hu
   split at hs
   ·rename_i kk hk;cases hs
    exact Ry true hL hw (hdn rfl) hfn (by rw [hop];show (3:Nat)≠0;omega) (fun _=>by rw [hop];exact Nat.le_refl 3) (lS hop (by simp) (by simp)) e (lk m (by simp [aO])) (lk kx (by simp [aO])) (lk x (by simp [aO])) fun u v s h1' fl hf=>Rj hu hk (.inr ho) (hf rfl)
   ·cases hs
  ·cases hs
 ·rename_i ty x y ho
  split at hs
  ·rename_i el hu
   split at hs
   ·rename_i zs sz aP hz hsz hb
    split at hs
    ·rename_i hc;cases hs
     have e':(Kt sz aP zs x y cx ol en ih).f fr l h k=some r:=e
     unfold Kt at e'
     obtain ⟨_,e1⟩:=nG e'
     exact xY false hL hw (hdn rfl) hfn (by rw [hop];show (2:Nat)≠0;omega) (fun h=>by cases h) (lS hop (by simp) (by simp)) e1 (lk x (by simp [aO])) (lk y (by simp [aO])) fun u v h1' fl _=>alS ⟨hu,hz,hsz,hb,hc.1,hc.2.1⟩ hc.2.2 ho
    ·cases hs
   ·cases hs
  ·cases hs
 ·rename_i ty x lo hi mx ho
  split at hs
  ·rename_i el hu
   split at hs
   ·rename_i sz hsz;cases hs;exact amE hL hw hfn hu hsz ho hop (hdn rfl) e
   ·cases hs
  ·split at hs
   ·cases hs;cases e
   ·cases hs
  ·rename_i n el hu
   split at hs
   ·split at hs
    ·rename_i sz hsz;cases hs
     exact Aj false hL hw (hdn rfl) hfn (by rw [hop];show (1:Nat)≠0;omega) (fun h=>by cases h) (lS hop (by simp) (by simp)) e (lk x (by simp [aO])) fun u h1' fl _=>al6 hu hsz ho
    ·cases hs
   ·cases hs
  ·cases hs
 ·rename_i ty x f ho
  split at hs
  ·rename_i fs hu
   split at hs
   ·rename_i fd hf
    split at hs
    ·rename_i sz hsz
     split at hs
     ·cases hs
     ·rename_i hne;cases hs;exact amn hL hw hu hf hsz hne ho hop (hdn rfl) e
    ·cases hs
   ·cases hs
  ·cases hs
 ·rename_i ty x f ho
  split at hs
  ·rename_i fs hu
   split at hs
   ·rename_i fd hf
    split at hs
    ·rename_i sz ag hsz ha;cases hs
     exact nD hL hw (hdn rfl) e (lk x (by simp [aO])) fun u h1=>akk hu hf hsz ha ho
    ·cases hs
   ·cases hs
  ·cases hs
 ·rename_i ty x i ho
  split at hs
  ·rename_i el hu
   split at hs
   ·rename_i sz hsz;cases hs
    exact qc hL hw (hdn rfl) e (lk x (by simp [aO])) (lk i (by simp [aO])) fun u v h1=>ako hu hsz ho
   ·cases hs
  ·rename_i n el hu
   split at hs
   ·rename_i sz hsz;cases hs
    exact qc hL hw (hdn rfl) e (lk x (by simp [aO])) (lk i (by simp [aO])) fun u v h1=>akq hu hsz ho
   ·cases hs
  ·cases hs
 ·rename_i ty x i ho
  split at hs
  ·rename_i n el hu
   split at hs
   ·rename_i sz ag hsz ha;cases hs
    exact qc hL hw (hdn rfl) e (lk x (by simp [aO])) (lk i (by simp [aO])) fun u v h1=>akr hu hsz ha ho
   ·cases hs
  ·rename_i hu;cases hs
   exact qc hL hw (hdn rfl) e (lk x (by simp [aO])) (lk i (by simp [aO])) fun u v h1=>al7 hu ho
  ·cases hs
 ·rename_i x i ho;cases hs
  exact nD hL hw (hdn rfl) e (lk x (by simp [aO])) fun u h1=>akl ho
 ·cases hs;cases e
 ·cases hs;cases e
 ·rename_i c ho
  split at hs
  ·cases hs;exact amI hcl hL hw hfn hop (hdn rfl) e
  ·rename_i hc
   split at hs
   ·rename_i ty x h2 h3
    split at hs
    ·rename_i el hu;cases hs
     exact nD hL hw (hdn rfl) e (lk x (by simp [aO])) fun u h1=>aks hu hc h2 h3 ho
    ·rename_i hu;cases hs
     exact nD hL hw (hdn rfl) e (lk x (by simp [aO])) fun u h1=>al8 hu hc h2 h3 ho
    ·cases hs
   ·cases hs
  ·rename_i hc
   split at hs
   ·rename_i ty x h2 h3
    split at hs
    ·rename_i el hu;cases hs
     exact Aj false hL hw (hdn rfl) hfn (by rw [hop];show (1:Nat)≠0;omega) (fun h=>by cases h) (lS hop (by simp) (by simp)) e (lk x (by simp [aO])) fun u h1' fl _=>al4 hu hc h2 h3 ho
    ·cases hs
   ·cases hs
  ·rename_i hc
   split at hs
   ·rename_i ty ty' s x h2 h3
    have h2':c.argTypes= #[ty,ty']:=Array.toList_inj.1 (by simpa using h2)
    have h3':c.args= #[s,x]:=Array.toList_inj.1 (by simpa using h3)
    split at hs
    ·rename_i hty
     subst hty
     split at hs
     ·rename_i el hu
      split at hs
      ·rename_i zs sz aP hz hsz hb
       split at hs
       ·rename_i hcc;cases hs
        exact xY true hL hw (hdn rfl) hfn (by rw [hop];show (4:Nat)≠0;omega) (fun _=>by rw [hop];show 3<=4;omega) (lS hop (by simp) (by simp)) e (lk s (by simp [aO])) (lk x (by simp [aO])) fun u v h1' fl hf=>akD ⟨hu,hz,hsz,hb,hcc.1,hcc.2⟩ hc h2' h3' ho (hf rfl)
       ·cases hs
      ·cases hs
     ·cases hs
    ·split at hs
     ·rename_i el q hu hti
      split at hs
      ·rename_i zs sz aP hz hsz hb
       split at hs
       ·rename_i hcc;cases hs
        have e':(Ku sz aP zs s x cx ol en ih).f fr l h k=some r:=e
        unfold Ku at e'
        obtain ⟨_,e1⟩:=nG e'
        exact xY false hL hw (hdn rfl) hfn (by rw [hop];show (2:Nat)≠0;omega) (fun h=>by cases h) (lS hop (by simp) (by simp)) e1 (lk s (by simp [aO])) (lk x (by simp [aO])) fun u v h1' fl _=>alX ⟨hu,hz,hsz,hb,hcc.1,hcc.2.1⟩ hcc.2.2 hti hc h2' h3' ho
       ·cases hs
      ·cases hs
     ·cases hs
   ·cases hs
  ·rename_i hc
   split at hs
   ·rename_i ty x h2 h3
    split at hs
    ·rename_i el hu
     split at hs
     ·rename_i zs sz hz hsz
      split at hs
      ·rename_i hcc;cases hs
       have e':(Kv sz zs x cx ol en ih).f fr l h k=some r:=e
       unfold Kv at e'
       obtain ⟨_,e1⟩:=nG e'
       exact Aj true hL hw (hdn rfl) hfn (by rw [hop];show (3:Nat)≠0;omega) (fun _=>by rw [hop];exact Nat.le_refl 3) (lS hop (by simp) (by simp)) e1 (lk x (by simp [aO])) fun u h1' fl hf=>alV hu hz hsz hcc.1 hcc.2.1 hcc.2.2 hc h2 h3 ho (hf rfl)
      ·cases hs
     ·cases hs
    ·cases hs
   ·cases hs
  ·rename_i hc;cases hs
   have e':(Ky true c.args.toList cx ol en ih).f fr l h k=some r:=e
   rcases hxy:c.args.toList with _|⟨x,_|⟨y,_|⟨z,t⟩⟩⟩
   ·rw [hxy] at e';cases e'
   ·rw [hxy] at e';cases e'
   ·rw [hxy] at e'
    exact qc hL hw (hdn rfl) e' (lk x (by simp [aO,hxy])) (lk y (by simp [aO,hxy])) fun u v h1=>Rh (mx:=true) hc ho (Array.toList_inj.1 (by simpa using hxy))
   ·rw [hxy] at e';cases e'
  ·rename_i hc;cases hs
   have e':(Ky false c.args.toList cx ol en ih).f fr l h k=some r:=e
   rcases hxy:c.args.toList with _|⟨x,_|⟨y,_|⟨z,t⟩⟩⟩
   ·rw [hxy] at e';cases e'
   ·rw [hxy] at e';cases e'
   ·rw [hxy] at e'
    exact qc hL hw (hdn rfl) e' (lk x (by simp [aO,hxy])) (lk y (by simp [aO,hxy])) fun u v h1=>Rh (mx:=false) hc ho (Array.toList_inj.1 (by simpa using hxy))
   ·rw [hxy] at e';cases e'
  ·rename_i hc
   split at hs
   ·rename_i ty d x h2 h3
    have h3':c.args= #[d,x]:=Array.toList_inj.1 (by simpa using h3)
    split at hs
    ·rename_i el hu
     split at hs
     ·rename_i sz hsz
      split at hs
      ·rename_i hpos;cases hs
       exact xY true hL hw (hdn rfl) hfn (by rw [hop];show (3:Nat)≠0;omega) (fun _=>by rw [hop];exact Nat.le_refl 3) (lS hop (by simp) (by simp)) e (lk d (by simp [aO])) (lk x (by simp [aO])) fun u v h1' fl hf=>alZ hu hsz hpos hc h2 h3' ho (hf rfl)
      ·cases hs;cases e
     ·cases hs;cases e
    ·cases hs;cases e
   ·cases hs;cases e
  ·cases hs
 ·cases hs
theorem amK (hcl:gu P cx.cl) (hL:fw P cx ops o ol) (hw:Wf cx en l) (hfn:h.fl<=h.n) (e:(plan ol.op cx ol en ih).f fr l h k=some r):CY P cx ops o ol en fr l h ih k r:=by
 by_cases hm:p9 ol.op=true
 ·have hs:=hL.op
  have hdn:ow ol.op=false->∀ t,ol.dst=some t->mem cx.PV t=false:=fun hi t ht=>by
   cases hm:mem cx.PV t with
   |false=>rfl
   |true=>rw [hL.pv t ht hm] at hi;cases hi
  obtain ⟨el0,sz0,zs0,tX,ps0,hop⟩:∃ el sz zs len ps,ol.op= .iJ el sz zs len ps:=by
   cases ho:ol.op<;>rw [ho] at hm<;>first|(cases hm;done)|exact ⟨_,_,_,_,_,rfl⟩
  rw [hop] at e hs hdn
  unfold Go.Eng.strip at hs
  repeat' split at hs
  all_goals first|(cases hs;done)|skip
  all_goals first|(cases hs;exact RQ hL hw hfn (by assumption) (by assumption) (by assumption) (And.left (by assumption)) (And.left (And.right (by assumption))) (And.left (And.right (And.right (by assumption)))) (And.right (And.right (And.right (by assumption)))) (by assumption) hop (hdn rfl) e)|skip
 ·obtain ⟨en',l',h',kd,sv,var,h1,h2,h3,h4,h5,h6,h7⟩:=RU hcl hL hw hfn e
  exact ⟨en',l',h',kd,sv,var,h1,h2,h3,h4,h5,h6,h7,fun h=>absurd h hm⟩
end
end
end Go.M
namespace Go.M
open Go
open Go.Eng (SOp SOper SCode)
noncomputable section
variable [aY]
structure Bs where
 w0:World
 fl:Nat
 V:Vw
 h:Hp
 w:World
 nt:Nat
structure SR (B:Bs) (V:Vw) (h:Hp) (w:World) (a:Act) (γ:Nat->Nat) (s:dP):Prop where
 mr:MR B.w0 V h w
 bS:Stp B.fl B.V B.h B.w V w
 tm:∀ k sv,s.T k=some sv->nA V γ (a.eval (.tmp k)) sv
 vr:∀ p x,s.C p=some x->vN B.w.heap.size V γ w p x
 inj:∀ p q x y,s.C p=some x->s.C q=some y->p≠q->γ p≠γ q
 df:a.defers=[]
 sz:a.tmps.size=B.nt
 b0:B.w0.heap.size<=B.w.heap.size
theorem SR.le {B:Bs} {V:Vw} {h:Hp} {w:World} {a:Act} {γ:Nat->Nat} {s s':dP} (hs:SR B V h w a γ s) (hl:s'.le s):SR B V h w a γ s':=
 ⟨hs.mr,hs.bS,fun k sv hk=>hs.tm k sv (hl.1 k sv hk),fun p x hp=>hs.vr p x (hl.2 p x hp),fun p q x y hp hq=>hs.inj p q x y (hl.2 p x hp) (hl.2 q y hq),hs.df,hs.sz,hs.b0⟩
theorem nA.mono {V V':Vw} {γ:Nat->Nat} {u:Value} {sv:SV} (h:Ext V V') (hs:nA V γ u sv):nA V' γ u sv:=by
 cases sv with
 |val x=>exact den.mono h hs
 |ptr p off c=>exact hs
theorem fH.mono {V V':Vw} {x:X} {cells:Array Value} (h:Ext V V') (hc:fH V x cells):fH V' x cells:=⟨hc.1,by obtain ⟨u,h1,h2,h3⟩:=hc.2;exact ⟨u,h1.mono h,h2,h3⟩⟩
theorem MR.mono {w0:World} {V:Vw} {h h':Hp} {w:World} {fl:Nat} (hm:MR w0 V h w) (hl:aM fl h h') (hf:∀ b,V.S b->b<fl):MR w0 V h' w:=by
 have hg:∀ b,V.S b->gH h' b=gH h b:=fun b hb=>hl.get b (hf b hb) (hm.nb b hb).1 (hm.nb b hb).2
 exact ⟨fun b hb=>⟨Nat.lt_of_lt_of_le (hm.nb b hb).1 hl.n,(hm.nb b hb).2⟩,fun b hb=>by rw [hg b hb];exact hm.bl b hb,fun b b' hb hb' h1 h2=>by rw [hg b hb] at h1;rw [hg b' hb'] at h2;exact hm.inj b b' hb hb' h1 h2,hm.nw,hm.old,hm.sz,hm.os,hm.tape,hm.output,hm.ar⟩
theorem bH.world {V:Vw} {w w':World} {b:Nat} {x:X} (hw:w'.heap[V.ρ b]? =w.heap[V.ρ b]?) (hx:bH V w b x):bH V w' b x:=by
 unfold bH at hx ⊢
 rw [hw];exact hx
theorem MR.setAt {w0:World} {V:Vw} {h:Hp} {w w':World} {g:Nat} {ob:Obj} (hm:MR w0 V h w) (hs:FE w w' g ob) (hsz:w.heap.size<=w'.heap.size) (h0:w0.heap.size<=g) (hn:∀ b,V.S b->V.ρ b≠g):MR w0 V h w':=
 ⟨hm.nb,fun b hb=>(hm.bl b hb).world (hs.keep _ (hn b hb)),hm.inj,fun b hb=>⟨(hm.nw b hb).1,Nat.lt_of_lt_of_le (hm.nw b hb).2 hsz⟩,fun k hk=>by rw [hs.keep k (by omega)];exact hm.old k hk,Nat.le_trans hm.sz hsz,by rw [hs.os,hm.os],by rw [hs.tape,hm.tape],by rw [hs.output,hm.output],hm.ar⟩
theorem vN.size {b1:Nat} {V:Vw} {γ:Nat->Nat} {w:World} {p:Nat} {x:X} (h:vN b1 V γ w p x):γ p<w.heap.size:=by
 obtain ⟨_,⟨cells,e,h1,_⟩,_⟩:=h
 exact (Array.getElem?_eq_some_iff.1 h1).1
theorem vN.bS {b1 fl:Nat} {V V':Vw} {γ:Nat->Nat} {h:Hp} {w w':World} {p:Nat} {x:X} (hv:vN b1 V γ w p x) (hs:Stp fl V h w V' w'):vN b1 V' γ w' p x:=by
 have hsz:=hv.size
 obtain ⟨h1,⟨cells,e,h2,h3⟩,h4⟩:=hv
 refine ⟨h1,⟨cells,e,by rw [hs.keep _ hsz fun b hb _=>h4 b hb];exact h2,h3.mono hs.ext⟩,fun b hb=> ?_⟩
 rcases hs.new b hb with hb|⟨_,hb|⟨b0,hb0,_,hb⟩⟩
 ·rw [hs.ext.ρ b hb];exact h4 b hb
 ·omega
 ·rw [hb];exact h4 b0 hb0
theorem Le {a:Act} {t:Nat} {v:Value} (ht:t<a.tmps.size) (k:Nat):(a.put (some t) v).eval (.tmp k)=if t=k then v else a.eval (.tmp k):=by
 show (a.tmps.setIfInBounds t v).getD k undef=if t=k then v else a.tmps.getD k undef
 simp only [Array.getD_eq_getD_getElem?,Array.getElem?_setIfInBounds]
 by_cases e:t=k
 ·subst e;rw [if_pos rfl,if_pos ht,if_pos rfl];rfl
 ·rw [if_neg e,if_neg e]
theorem RV {a:Act} {v:Value} (k:Nat):(a.put none v).eval (.tmp k)=a.eval (.tmp k):=rfl
theorem jr (a:Act) (dst:Option Nat) (v:Value):(a.put dst v).tmps.size=a.tmps.size:=by cases dst<;>simp [Act.put]
theorem put_defers (a:Act) (dst:Option Nat) (v:Value):(a.put dst v).defers=a.defers:=by cases dst<;>simp [Act.put]
theorem FU {V':Vw} {γ':Nat->Nat} {a:Act} {dst:Option Nat} {v:Value} {s:dP} {sv:SV} {var:Option (Nat×X)} (hd:∀ t,dst=some t->t<a.tmps.size) (h1:∀ k sv,dst≠some k->s.T k=some sv->nA V' γ' (a.eval (.tmp k)) sv) (h2:dst≠none->nA V' γ' v sv):
  ∀ k Al,(s.upd dst sv var).T k=some Al->nA V' γ' ((a.put dst v).eval (.tmp k)) Al:=fun k Al hk=>by
 have hk':(if dst=some k then some sv else s.T k)=some Al:=hk
 cases dst with
 |none=>
  rw [if_neg (by simp)] at hk'
  rw [RV];exact h1 k Al (by simp) hk'
 |some t=>
  rw [Le (hd t rfl)]
  by_cases e:t=k
  ·subst e
   rw [if_pos rfl] at hk' ⊢
   cases hk';exact h2 (by simp)
  ·rw [if_neg (by simpa using e)] at hk'
   rw [if_neg e];exact h1 k Al (by simpa using e) hk'
variable {P:Program} {cx:Cx} {ops:Array Oper} {o:Oper}
theorem FV {s:dP} {dst:Option Nat} {sv:SV} {q:Nat} {y:X} (p:Nat):(s.upd dst sv (some (q,y))).C p=if q=p then some y else s.C p:=rfl
theorem SR.step {B:Bs} {V:Vw} {h h':Hp} {w:World} {a:Act} {γ:Nat->Nat} {s:dP} {LT:List Nat} {kd:Kd} {sv:SV} {var:Option (Nat×X)} (hs:SR B V h w a γ s) (hb:aM B.fl B.h h) (hf:B.fl=h.fl) (hfn:h.fl<=h.n)
  (hl:aM (vO h kd) h h') (hkf:∀ fl,kd= .heap fl->fl=h.n\/fl=h.fl) (hdst:∀ t,o.dst=some t->t<B.nt) (hnew:∀ p,kd= .new p->o.dst=some p) (hst:∀ p,kd= .store p->o.dst=none) (he:Af P ops o LT s h h' kd sv var):
  GW P ops o a w fun v w'=>∃ V' γ',SR B V' h' w' (a.put o.dst v) γ' (s.upd o.dst sv var):=by
 have hd:∀ t,o.dst=some t->t<a.tmps.size:=fun t ht=>by rw [hs.sz];exact hdst t ht
 have hT:iX s V γ a LT:=fun k _ sv hk=>hs.tm k sv hk
 have hC:∀ LC,KU B.w.heap.size s V γ w LC:=fun LC p _ x hp=>hs.vr p x hp
 cases kd with
 |pure LC=>
  obtain ⟨rfl,he⟩:=he
  refine (he _ V γ w a hT (hC LC)).mono fun v w' ⟨h1,h2⟩=> ?_
  subst h1
  exact ⟨V,γ,hs.mr.mono hl (fun b hb=>(hs.mr.nb b hb).1),hs.bS,FU hd (fun k sv _ hk=>hs.tm k sv hk) (fun _=>h2),fun p x hp=>hs.vr p x hp,fun p q x y hp hq=>hs.inj p q x y hp hq,by rw [put_defers];exact hs.df,by rw [jr];exact hs.sz,hs.b0⟩
 |heap fl=>
  obtain ⟨rfl,x,rfl,he⟩:=he
  refine (he B.w0 V γ w a hs.mr hT).mono fun v w' ⟨V',h1,h2,h3⟩=> ?_
  have hfl:B.fl<=fl:=by rcases hkf fl rfl with e|e<;>omega
  exact ⟨V',γ,h1,hs.bS.trans hb.n (h3.weak hfl),FU hd (fun k sv _ hk=>(hs.tm k sv hk).mono h3.ext) (fun _=>h2),fun p x hp=>(hs.vr p x hp).bS h3,fun p q x y hp hq=>hs.inj p q x y hp hq,by rw [put_defers];exact hs.df,by rw [jr];exact hs.sz,hs.b0⟩
 |store p=>
  obtain ⟨rfl,x,y,rfl,hy,he⟩:=he
  have hpv:=hs.vr p y hy
  refine (he _ V γ w a hT (hC _)).mono fun v w' ⟨cells,e,h1,h2,h3⟩=> ?_
  refine ⟨V,γ,hs.mr.setAt h1 (by omega) (Nat.le_trans hs.b0 hpv.1) hpv.2.2,?_,?_,fun q z hq=> ?_,fun q q' z z' hq hq' hne=> ?_,by rw [put_defers];exact hs.df,by rw [jr];exact hs.sz,hs.b0⟩
  ·exact ⟨hs.bS.ext,hs.bS.new,fun g hg hk=>by rw [h1.keep g (by have:=hpv.1;omega)];exact hs.bS.keep g hg hk,by rw [h2];exact hs.bS.size⟩
  ·exact FU hd (fun k sv _ hk=>hs.tm k sv hk) (fun hne=>absurd (hst p rfl) hne)
  ·rw [FV] at hq
   by_cases e2:p=q
   ·subst e2
    rw [if_pos rfl] at hq;cases hq
    exact ⟨hpv.1,⟨cells,e,h1.get,h3⟩,hpv.2.2⟩
   ·rw [if_neg e2] at hq
    obtain ⟨g1,⟨c2,e3,g2,g3⟩,g4⟩:=hs.vr q z hq
    exact ⟨g1,⟨c2,e3,by rw [h1.keep _ (fun e=>hs.inj q p z y hq hy (Ne.symm e2) e)];exact g2,g3⟩,g4⟩
  ·rw [FV] at hq hq'
   have key:∀ {q z},(if p=q then some x else s.C q)=some z->∃ z',s.C q=some z':=fun {q z} hq=>by
    by_cases e2:p=q
    ·subst e2;exact ⟨y,hy⟩
    ·rw [if_neg e2] at hq;exact ⟨z,hq⟩
   obtain ⟨z1,hz1⟩:=key hq
   obtain ⟨z2,hz2⟩:=key hq'
   exact hs.inj q q' z1 z2 hz1 hz2 hne
 |new p=>
  obtain ⟨rfl,rfl,hno,x,rfl,he⟩:=he
  have hop:=hnew p rfl
  refine (he V γ w a hT).mono fun v w' ⟨h0,cells,e,h1,h2,h3⟩=> ?_
  subst h0
  have hlt:∀ b,V.S b->V.ρ b≠w.heap.size:=fun b hb=>by have:=(hs.mr.nw b hb).2;omega
  refine ⟨V,fun q=>if q=p then w.heap.size else γ q,hs.mr.setAt h1 (by omega) hs.mr.sz hlt,?_,?_,fun q z hq=> ?_,fun q q' z z' hq hq' hne=> ?_,by rw [put_defers];exact hs.df,by rw [jr];exact hs.sz,hs.b0⟩
  ·exact ⟨hs.bS.ext,hs.bS.new,fun g hg hk=>by rw [h1.keep g (by have:=hs.bS.size;omega)];exact hs.bS.keep g hg hk,by have:=hs.bS.size;omega⟩
  ·refine FU hd (fun k sv hk hsk=> ?_) (fun _=> ?_)
   ·have hkp:k≠p:=fun e=>hk (by rw [hop,e])
    have:=hs.tm k sv hsk
    cases sv with
    |val z=>exact this
    |ptr q off c=>
     have xQ:q≠p:=fun e=>hno k off c hkp (by rw [<-e];exact hsk)
     intro hc
     show _=Value.pointer (some ⟨if q=p then w.heap.size else γ q,off,none⟩)
     rw [if_neg xQ];exact this hc
   ·intro _
    show _=Value.pointer (some ⟨if p=p then w.heap.size else γ p,0,none⟩)
    rw [if_pos rfl]
  ·rw [FV] at hq
   by_cases e2:p=q
   ·subst e2
    rw [if_pos rfl] at hq;cases hq
    refine ⟨?_,?_,?_⟩<;>simp only [if_true]
    ·exact hs.bS.size
    ·exact ⟨cells,e,h1.get,h3⟩
    ·exact hlt
   ·rw [if_neg e2] at hq
    have hv:=hs.vr q z hq
    have hsz:=hv.size
    obtain ⟨g1,⟨c2,e3,g2,g3⟩,g4⟩:=hv
    refine ⟨?_,?_,?_⟩<;>simp only [if_neg (Ne.symm e2)]
    ·exact g1
    ·exact ⟨c2,e3,by rw [h1.keep _ (by omega)];exact g2,g3⟩
    ·exact g4
  ·rw [FV] at hq hq'
   have key:∀ {q z},q≠p->(if p=q then some x else s.C q)=some z->s.C q=some z:=fun {q z} hn hq=>by rw [if_neg (Ne.symm hn)] at hq;exact hq
   show (if q=p then w.heap.size else γ q)≠(if q'=p then w.heap.size else γ q')
   by_cases e1:q=p
   ·have e2:q'≠p:=fun e=>hne (e1.trans e.symm)
    rw [if_pos e1,if_neg e2]
    have:=(hs.vr q' z' (key e2 hq')).size
    omega
   ·by_cases e2:q'=p
    ·rw [if_neg e1,if_pos e2]
     have:=(hs.vr q z (key e1 hq)).size
     omega
    ·rw [if_neg e1,if_neg e2]
     exact hs.inj q q' z z' (key e1 hq) (key e2 hq') hne
theorem RY {n:Nat} {fr:FX} {l:Loc}:∀ {ws:List (Nat×D)} {kr:FX} {kk:FX->R} {r},(∀ q ∈ ws,q.1<64)->(ws.Pairwise fun a b=>a.1≠b.1)->(Fh n ws).f fr l kr kk=some r->
  ∃ lT,kk lT=some r/\∀ j,j<64->aW lT j=match lk ws j with
   |some d=>(ko n d).g fr l
   |none=>aW kr j
 |[],kr,kk,r,_,_,e=>⟨kr,e,fun j _=>rfl⟩
 |(i,d)::ws,kr,kk,r,h64,hn,e=>by
  have e1:(KD i).f kr ((ko n d).g fr l) (fun fr'=>(Fh n ws).f fr l fr' kk)=some r:=e
  rw [alJ (h64 _ (List.mem_cons_self ..))] at e1
  rw [List.pairwise_cons] at hn
  obtain ⟨lT,h1,h2⟩:=RY (fun q hq=>h64 q (List.mem_cons_of_mem _ hq)) hn.2 e1
  refine ⟨lT,h1,fun j hj=> ?_⟩
  rw [h2 j hj,kW]
  have hi:=h64 _ (List.mem_cons_self ..)
  by_cases e2:i=j
  ·subst e2
   rw [if_pos rfl]
   have:lk ws i=none:=by
    cases e3:lk ws i with
    |none=>rfl
    |some d'=>
     have hm:=hn.1 (i,d') (CU e3)
     exact absurd rfl hm
   rw [this]
   exact zK.self _ _ _ _ (JA _ _)
  ·rw [if_neg e2]
   cases lk ws j with
   |some d'=>rfl
   |none=>exact zK.other _ _ _ _ fun hs=>e2 (Jz hs hi hj)
def jG (cx:Cx) (en:En):List Nat->Nat->List (Nat×D)
 |[],_=>[]
 |k::G,j=>match cnd (mem cx.PV k) (lk en.C k) (lk en.T k) with
  |none=>jG cx en G (j+1)
  |some d=>if tQ d j=true then jG cx en G (j+1) else (j,d)::jG cx en G (j+1)
theorem amM (cx:Cx) (en:En):KE cx en=jG cx en cx.G 0:=by
 have:∀ (G:List Nat) (j:Nat),(@List.rec Nat (fun _=>Nat->List (Nat×D)) (fun _=>[]) (fun k _ ih j=>oD (cnd (mem cx.PV k) (lk en.C k) (lk en.T k)) (ih (Nat.succ j)) fun d=>cnd (tQ d j) (ih (Nat.succ j)) ((j,d)::ih (Nat.succ j))) G:Nat->List (Nat×D)) j=jG cx en G j:=by
  intro G
  induction G with
  |nil=>intro j;rfl
  |cons k G ih=>
   intro j
   show oD (cnd (mem cx.PV k) (lk en.C k) (lk en.T k)) _ _=_
   unfold jG
   cases cnd (mem cx.PV k) (lk en.C k) (lk en.T k) with
   |none=>exact ih (j+1)
   |some d=>
    show cnd (tQ d j) _ _=if tQ d j=true then _ else _
    rw [fq]
    split
    ·exact ih (j+1)
    ·exact congrArg _ (ih (j+1))
 exact this cx.G 0
theorem Am (cx:Cx) (en:En):∀ (G:List Nat) (j:Nat) (q:Nat×D),q ∈ jG cx en G j->j<=q.1/\q.1<j+G.length
 |[],j,q,h=>by simp [jG] at h
 |k::G,j,q,h=>by
  unfold jG at h
  split at h
  ·have:=Am cx en G (j+1) q h;simp only [List.length_cons];omega
  ·split at h
   ·have:=Am cx en G (j+1) q h;simp only [List.length_cons];omega
   ·rcases List.mem_cons.1 h with rfl|h
    ·simp
    ·have:=Am cx en G (j+1) q h;simp only [List.length_cons];omega
theorem FW (cx:Cx) (en:En):∀ (G:List Nat) (j:Nat),(jG cx en G j).Pairwise fun a b=>a.1≠b.1
 |[],j=>List.Pairwise.nil
 |k::G,j=>by
  unfold jG
  split
  ·exact FW cx en G (j+1)
  ·split
   ·exact FW cx en G (j+1)
   ·exact List.pairwise_cons.2 ⟨fun q hq=>by have:=(Am cx en G (j+1) q hq).1;simp only;omega,FW cx en G (j+1)⟩
theorem RZ (cx:Cx) (en:En):∀ (G:List Nat) (j i k:Nat),G[i]? =some k->lk (jG cx en G j) (j+i)=match cnd (mem cx.PV k) (lk en.C k) (lk en.T k) with
  |none=>none
  |some d=>if tQ d (j+i)=true then none else some d
 |[],j,i,k,h=>by simp at h
 |k0::G,j,i,k,h=>by
  have hout:∀ j' m,m<j'->lk (jG cx en G j') m=none:=fun j' m hm=>by
   cases e:lk (jG cx en G j') m with
   |none=>rfl
   |some d=>have:=(Am cx en G j' _ (CU e)).1;simp only at this;omega
  cases i with
  |zero=>
   simp at h;subst h
   show lk (jG cx en (k0::G) j) j=match cnd (mem cx.PV k0) (lk en.C k0) (lk en.T k0) with
    |none=>none
    |some d=>if tQ d j=true then none else some d
   unfold jG
   cases hd:cnd (mem cx.PV k0) (lk en.C k0) (lk en.T k0) with
   |none=>exact hout _ _ (Nat.lt_succ_self _)
   |some d=>
    simp only
    by_cases hs:tQ d j=true
    ·rw [if_pos hs,if_pos hs];exact hout _ _ (Nat.lt_succ_self _)
    ·rw [if_neg hs,if_neg hs,kW,if_pos rfl]
  |succ i=>
   have h':G[i]? =some k:=by simpa using h
   have ih:=RZ cx en G (j+1) i k h'
   rw [show j+1+i=j+(i+1) from by omega] at ih
   unfold jG
   split
   ·exact ih
   ·split
    ·exact ih
    ·rw [kW,if_neg (by omega)];exact ih
theorem FY {cx:Cx} {en:En} {fr:FX} {l:Loc} {h:Hp} {k:Kc} {r} {e:Nat} (hG:cx.G.length<=64) (hw:Wf cx en l) (he:(iq cx e en).f fr l h k=some r):∃ fr',k e fr' h=some r/\(aX cx en0 fr' []).le (aX cx en fr l):=by
 have he':(Fh en.n (KE cx en)).f fr l fr (fun fr=>k e fr h)=some r:=he
 rw [amM] at he'
 obtain ⟨fr',h1,h2⟩:=RY (fun q hq=>by have:=(Am cx en cx.G 0 q hq).2;omega) (FW cx en cx.G 0) he'
 have Da:∀ k j,ix cx.G k=some j->aW fr' j=match cnd (mem cx.PV k) (lk en.C k) (lk en.T k) with
   |none=>aW fr j
   |some d=>vD en fr l d:=fun k j hj=>by
  have hgj:=vL hj
  have hlt:j<64:=Nat.lt_of_lt_of_le (List.getElem?_eq_some_iff.1 hgj).1 hG
  have:=RZ cx en cx.G 0 j k hgj
  rw [Nat.zero_add] at this
  rw [h2 j hlt,this]
  cases cnd (mem cx.PV k) (lk en.C k) (lk en.T k) with
  |none=>rfl
  |some d=>
   simp only
   by_cases hs:tQ d j=true
   ·rw [if_pos hs]
    cases d with
    |loc p=>cases hs
    |con x=>cases hs
    |slot i=>
     have:i=j:=aC hs
     subst this;rfl
   ·rw [if_neg hs]
 have hC:∀ p x,bf cx en0 fr' [] p=some x->bf cx en fr l p=some x:=fun p x hx=>by
  have hx':(if mem cx.PV p=true then match ix cx.G p with
   |some j=>if (aW fr' j).n=14 then none else some (aW fr' j)
   |none=>none
   else none)=some x:=hx
  split at hx'
  ·rename_i hpv
   cases hj:ix cx.G p with
   |none=>rw [hj] at hx';cases hx'
   |some j=>
    rw [hj] at hx'
    have:=Da p j hj
    rw [fq,if_pos hpv] at this
    simp only at hx'
    unfold bf
    cases e2:lk en.C p with
    |some d=>
     rw [e2] at this
     simp only at this ⊢
     rw [this] at hx'
     split at hx'
     ·cases hx'
     ·exact hx'
    |none=>
     rw [e2] at this
     simp only [hpv,if_true,hj] at this ⊢
     rw [this] at hx';exact hx'
  ·cases hx'
 refine ⟨fr',h1,fun k v hk=> ?_,hC⟩
 have hk':(if mem cx.PV k=true then (match bf cx en0 fr' [] k with
   |some _=>some (SV.ptr k 0 true)
   |none=>none)
  else match ix cx.G k with
    |some j=>some (.val (aW fr' j))
    |none=>none)=some v:=hk
 show bU cx en fr l k=some v
 unfold bU
 split at hk'
 ·rename_i hpv
  have hTn:lk en.T k=none:=by
   cases e2:lk en.T k with
   |none=>rfl
   |some d=>rw [(hw.T k d e2).2.1] at hpv;cases hpv
  rw [hTn]
  simp only [hpv,if_true]
  cases e3:bf cx en0 fr' [] k with
  |none=>rw [e3] at hk';cases hk'
  |some x=>
   rw [e3] at hk'
   rw [hC k x e3];exact hk'
 ·rename_i hpv
  cases hj:ix cx.G k with
  |none=>rw [hj] at hk';cases hk'
  |some j=>
   rw [hj] at hk'
   simp only [Option.some.injEq] at hk'
   have:=Da k j hj
   rw [fq,if_neg hpv] at this
   cases e2:lk en.T k with
   |some d=>
    rw [e2] at this
    simp only at this ⊢
    rw [<-hk',this]
   |none=>
    rw [e2] at this
    simp only [hpv,if_false] at this ⊢
    have hA:lk en.A k=none:=by
     cases e4:lk en.A k with
     |none=>rfl
     |some a=>
      have:=(hw.A k a e4).2.1
      rw [CS this] at hj;cases hj
    rw [hA]
    simp only
    rw [<-hk',this];rfl
end
end Go.M
namespace Go.M
open Go
open Go.Eng (SOp SOper SCode stripOper stripOps stripCode)
noncomputable section
variable [aY]
section
variable {P:Program} {cx:Cx} {ops:Array Oper} {o:Oper} {nt:Nat}
theorem sK {draw:Bool} {so:SOper} (hs:stripOper P ops draw o=some so):
  Go.Eng.strip P o=some so.op/\so.dst=o.dst/\(so.guard=none↔o.guard=none)/\∀ g wt,so.guard=some (g,wt)->∃ j,o.guard=some (j,wt)/\((ops[j]?).bind (·.dst))=some g:=by
 unfold stripOper at hs
 split at hs
 ·rename_i sp hsp
  split at hs
  ·rename_i hg
   cases hs
   exact ⟨hsp,rfl,by simp [hg],fun g wt e=>by simp at e⟩
  ·rename_i j wt hg
   split at hs
   ·rename_i g hgd
    cases hs
    refine ⟨hsp,rfl,by simp [hg],fun g' wt' e=> ?_⟩
    simp only [Option.some.injEq,Prod.mk.injEq] at e
    obtain ⟨rfl,rfl⟩:=e
    exact ⟨j,hg,hgd⟩
   ·cases hs
 ·cases hs
theorem yO {draw:Bool} {l:List Oper} {sl:List SOper} (hs:stripOps P ops draw (o::l)=some sl):
  ∃ so sl',sl=so::sl'/\stripOper P ops draw o=some so/\stripOps P ops draw l=some sl':=by
 unfold stripOps at hs
 split at hs
 ·rename_i so hso
  split at hs
  ·rename_i sl' hsl
   cases hs
   exact ⟨so,sl',rfl,hso,hsl⟩
  ·cases hs
 ·cases hs
theorem FZ {PV:List Nat} {draw:Bool} {so:SOper} (h:okD nt PV draw so=true):∀ t,so.dst=some t->t<nt/\(mem PV t=true->ow so.op=true)/\KG so.op=false:=fun t ht=>by
 unfold okD at h
 rw [ht] at h
 have h':(Nat.blt t nt&&((!(mem PV t)||ow so.op)&& !(KG so.op)))=true:=h
 simp only [Bool.and_eq_true,Bool.or_eq_true,Bool.not_eq_true'] at h'
 refine ⟨by simpa [Nat.blt_eq] using h'.1,fun hm=> ?_,h'.2.2⟩
 rcases h'.2.1 with h1|h1
 ·rw [hm] at h1;cases h1
 ·exact h1
theorem R3 {draw:Bool} {so:SOper} {bF:Bool} {vp:Option (Option Nat)} (hs:stripOper P ops draw o=some so) (hd:okD nt cx.PV draw so=true):fw P cx ops o ⟨so.dst,so.op,so.guard,bF,vp⟩:=by
 obtain ⟨h1,h2,h3,h4⟩:=sK hs
 refine ⟨h1,h2,fun hg=>h3.1 hg,h4,fun t ht hm=>(FZ hd t ht).2.1 hm,fun sz x y hop=> ?_⟩
 show so.dst=none
 cases ht:so.dst with
 |none=>rfl
 |some t=>
  have:=(FZ hd t ht).2.2
  have hop:so.op= .store sz x y:=hop
  rw [hop] at this;cases this
def At (cx:Cx) (B:Bs) (en:En) (fr:FX) (l:Loc) (h:Hp) (a:Act) (w:World):Prop:=∃ V γ,SR B V h w a γ (aX cx en fr l)
theorem At.le {B:Bs} {en en':En} {fr fr':FX} {l l':Loc} {h:Hp} {a:Act} {w:World} (hA:At cx B en fr l h a w) (hl:(aX cx en' fr' l').le (aX cx en fr l)):At cx B en' fr' l' h a w:=by
 obtain ⟨V,γ,hs⟩:=hA
 exact ⟨V,γ,hs.le hl⟩
theorem Lf {h h':Hp} {kd:Kd} {ol:OL} (hk:xW cx h ol kd) (hfn:h.fl<=h.n) (hl:aM (vO h kd) h h'):aM h.fl h h'/\∀ fl,kd= .heap fl->fl=h.n\/fl=h.fl:=by
 cases kd with
 |pure LC=>exact ⟨hl.weak hfn,fun fl e=>by cases e⟩
 |heap fl=>
  obtain ⟨_,_,hh,_⟩:=hk
  have h2:fl=h.n\/fl=h.fl:=hh.imp id fun hh=>hh.1
  refine ⟨hl.weak ?_,fun zN e=>by cases e;exact h2⟩
  show h.fl<=fl
  rcases h2 with e|e<;>omega
 |store p=>exact ⟨hl.weak hfn,fun fl e=>by cases e⟩
 |new p=>exact ⟨hl.weak hfn,fun fl e=>by cases e⟩
theorem R4 (hcl:gu P cx.cl) {FL:List Nat} {draw:Bool}:∀ (lo:List Oper) {sl:List SOper} {en:En} {fr:FX} {l:Loc} {h:Hp} {k:Kc} {r:List Prop} {kn:En->FR},stripOps P ops draw lo=some sl->(sl.all fun o=>okD nt cx.PV draw o)=true->
  (xR cx kn (KF FL sl) en).f fr l h k=some r->Wf cx en l->h.fl<=h.n->∃ en' l' h',(kn en').f fr l' h' k=some r/\Wf cx en' l'/\aM h.fl h h'/\
   ((∀ p ∈ h'.fa,p)->∀ (B:Bs) a w (K:Exit->Act->World->Prop),B.fl=h.fl->aM B.fl B.h h->B.nt=nt->At cx B en fr l h a w->(∀ a' w',At cx B en' fr l' h' a' w'->K .normal a' w')->wpList P ops K lo a w)
 |[],sl,en,fr,l,h,k,r,kn,hs,_,e,hw,hfn=>by
  simp only [stripOps,Option.some.injEq] at hs
  subst hs
  exact ⟨en,l,h,e,hw,.refl _ _,fun _ B a w K _ _ _ hA hK=>hK a w hA⟩
 |o::lo,sl,en,fr,l,h,k,r,kn,hs,hd,e,hw,hfn=>by
  obtain ⟨so,sl',rfl,hso,hsl⟩:=yO hs
  simp only [List.all_cons,Bool.and_eq_true] at hd
  have e1:(plan so.op cx ⟨so.dst,so.op,so.guard,kV FL so,none⟩ en (xR cx kn (KF FL sl'))).f fr l h k=some r:=e
  have hL:=R3 (cx:=cx) (bF:=kV FL so) (vp:=none) hso hd.1
  obtain ⟨R5,l1,h1,kd,sv,var,g1,g2,g3,g4,g5,_,g6⟩:=RU (ol:=⟨so.dst,so.op,so.guard,kV FL so,none⟩) hcl hL hw hfn e1
  obtain ⟨g4',g7⟩:=Lf g5 hfn g4
  have Ak:h1.fl<=h1.n:=by have:=g4'.fe;have:=g4'.n;omega
  obtain ⟨dQ,l2,h2,q1,q2,q3,q4⟩:=R4 hcl lo hsl hd.2 g1 g2 Ak
  have q3':aM h.fl h1 h2:=by rw [<-g4'.fe];exact q3
  refine ⟨dQ,l2,h2,q1,q2,g4'.trans q3',fun hfa B a w K dB dI dR hA hK=> ?_⟩
  obtain ⟨V,γ,hSR⟩:=hA
  have hst:=hSR.step (o:=o) (ops:=ops) (P:=P) dI dB hfn g4 g7 (fun t ht=>by rw [dR];exact (FZ hd.1 t (by rw [(sK hso).2.1];exact ht)).1)
   (fun p hp=>by subst hp;have:=g5.2.1;rw [<-(sK hso).2.1];exact this)
   (fun p hp=>by subst hp;have:=g5.2.1;rw [<-(sK hso).2.1];exact this)
   (g6 fun p hp=>hfa p (q3.fa p hp))
  have hgw:=hst (wpList P ops K lo) K fun v w' ⟨V',γ',hSR'⟩=>q4 hfa B _ w' K (dB.trans g4'.fe.symm) (dI.trans (by rw [dB];exact g4')) dR ⟨V',γ',hSR'.le (by rw [<-(sK hso).2.1];exact g3)⟩ hK
  simp only [wpList]
  by_cases hwd:Region.wanted o (yielded ops a.tmps)=true
  ·rw [if_pos hwd] at hgw ⊢;exact .inl hgw
  ·rw [if_neg hwd] at hgw ⊢;exact hgw
def Lg (P:Program) (cx:Cx) (nt:Nat):Prop:=∀ (ops:Array Oper) {sl:List SOper} {en:En} {fr:FX} {l:Loc} {h:Hp} {k:Kc} {r:List Prop} {kn:En->FR},stripOps P ops true ops.toList=some sl->(sl.all fun o=>okD nt cx.PV true o)=true->iL cx.PV cx.FL sl=true->
 (xR cx kn (Fp (aliases cx.PV sl []) cx.PV cx.FL sl) en).f fr l h k=some r->Wf cx en l->en.A=[]->h.fl<=h.n->∃ en' l' h',(kn en').f fr l' h' k=some r/\Wf cx en' l'/\aM h.fl h h'/\
  ((∀ p ∈ h'.fa,p)->∀ (B:Bs) a w (K:Exit->Act->World->Prop),B.fl=h.fl->aM B.fl B.h h->B.nt=nt->At cx B en fr l h a w->(∀ a' w',At cx B en' fr l' h' a' w'->K .normal a' w')->wpAny P .any ops K ops.size (Array.replicate ops.size false) a w)
theorem amO {en:En} {fr:FX} {l:Loc} (hw:Wf cx en l):Wf cx (CK en) l/\(aX cx (CK en) fr l).le (aX cx en fr l):=by
 have hW:Wf cx (CK en) l:=⟨hw.n,fun k d h=>⟨(hw.T k d h).1,(hw.T k d h).2.1,rfl⟩,hw.C,fun k a h=>(by cases h),List.Pairwise.nil⟩
 have hS:oz cx fr en l (CK en) l none none:=⟨fun k _=>rfl,fun k a _ h=>(by cases h),fun q _=>rfl,fun d _=>rfl⟩
 exact ⟨hW,fun k v hk=>hS.bU hw hW (fun q x hq=>by cases hq) k (by simp) v hk,fun p x hp=>(hS.bf hw p (by simp)).symm.trans hp⟩
def nH (e:Nat) (e':Exit):Prop:=(e=1/\e'= .ret)\/∃ id,e=id+2/\e'= .exit id
def oC (P:Program) (cx:Cx) (nt:Nat) (c:Code) (en:En) (fr:FX) (l:Loc) (h:Hp) (en':En) (fr':FX) (l':Loc) (h':Hp) (R:Exit->Prop):Prop:=
 (∀ p ∈ h'.fa,p)->∀ (B:Bs) a w,B.fl=h.fl->aM B.fl B.h h->B.nt=nt->At cx B en fr l h a w->c.wp P (fun e' a' w'=>R e'/\At cx B en' fr' l' h' a' w') a w
def tY (P:Program) (cx:Cx) (nt:Nat) (c:Code) (en:En) (fr:FX) (l:Loc) (h:Hp) (k:Kc) (r:List Prop) (kn:En->FR):Prop:=
 (∃ en' fr' l' h',(kn en').f fr' l' h' k=some r/\Wf cx en' l'/\aM h.fl h h'/\oC P cx nt c en fr l h en' fr' l' h' (·= .normal))\/
 ∃ e fr' h',e≠0/\k e fr' h'=some r/\aM h.fl h h'/\oC P cx nt c en fr l h en0 fr' [] h' (nH e)
theorem aM.Db {h h':Hp} (hl:aM h.fl h h') (hf:h.fl<=h.n):h'.fl<=h'.n:=by have:=hl.fe;have:=hl.n;omega
theorem aM.tr {h h' h'':Hp} (a:aM h.fl h h') (b:aM h'.fl h' h''):aM h.fl h h'':=a.trans (by rw [<-a.fe];exact b)
theorem oC.mono {c c':Code} {en en' dQ:En} {fr fr' rQ:FX} {l l' l2:Loc} {h h':Hp} {R R':Exit->Prop} (hs:oC P cx nt c en fr l h en' fr' l' h' R) (hl:(aX cx dQ rQ l2).le (aX cx en' fr' l'))
  (hc:∀ (Q:Exit->Act->World->Prop) a w,c.wp P Q a w->(∀ e a w,Q e a w->R e)->∀ Q',(∀ e a w,Q e a w->∀ e',R' e'->Q' e' a w)->c'.wp P Q' a w):oC P cx nt c' en fr l h dQ rQ l2 h' R':=fun hfa B a w h1 h2 h3 hA=>
 hc _ a w (hs hfa B a w h1 h2 h3 hA) (fun e a w hh=>hh.1) _ fun e a w hh e' he'=>⟨he',hh.2.le hl⟩
theorem R6 {c:Code} {f:FR} {k:Kc} {r:List Prop} (hf:∀ {fr:FX} {h:Hp} {k:Kc} {r:List Prop},h.fl<=h.n->f.f fr [] h k=some r->∃ e fr' h',k e fr' h'=some r/\aM h.fl h h'/\oC P cx nt c en0 fr [] h en0 fr' [] h' (fun e'=>if e=0 then e'= .normal else nH e e')):
  ∀ (n:Nat) {fr:FX} {h:Hp},h.fl<=h.n->(Fq f n).f fr [] h k=some r->∃ e fr' h',e≠0/\k e fr' h'=some r/\aM h.fl h h'/\
   ((∀ p ∈ h'.fa,p)->∀ (B:Bs) a w,B.fl=h.fl->aM B.fl B.h h->B.nt=nt->At cx B en0 fr [] h a w->Code.rounds P c (fun e' a' w'=>nH e e'/\At cx B en0 fr' [] h' a' w') n a w)
 |0,fr,h,_,e=>by cases e
 |n+1,fr,h,hfn,e=>by
  have e1:f.f fr [] h (fun e fr h=>ah (Nat.beq e 0) ((Fq f n).f fr [] h k) (k e fr h))=some r:=e
  obtain ⟨e0,lT,h1,g1,g2,g3⟩:=hf hfn e1
  rcases aF g1 with ⟨t,g4⟩|⟨t,g4⟩
  ·have t:=aC t
   subst t
   obtain ⟨e',rQ,h2,q1,q2,q3,q4⟩:=R6 hf n (g2.Db hfn) g4
   refine ⟨e',rQ,h2,q1,q2,g2.tr q3,fun hfa B a w dB dI dR hA=> ?_⟩
   rw [rounds_succ]
   refine Code.wp_mono (fun ex a' w' hh=> ?_) (g3 (fun p hp=>hfa p (q3.fa p hp)) B a w dB dI dR hA)
   obtain ⟨Dc,F3⟩:=hh
   simp only [if_true] at Dc
   subst Dc
   exact q4 hfa B a' w' (dB.trans g2.fe.symm) (dI.trans (by rw [dB];exact g2)) dR F3
  ·have t:=gq t
   refine ⟨e0,lT,h1,t,g4,g2,fun hfa B a w dB dI dR hA=> ?_⟩
   rw [rounds_succ]
   refine Code.wp_mono (fun ex a' w' hh=> ?_) (g3 hfa B a w dB dI dR hA)
   obtain ⟨Dc,F3⟩:=hh
   rw [if_neg t] at Dc
   rcases Dc with ⟨h5,rfl⟩|⟨id,h5,rfl⟩
   ·exact ⟨.inl ⟨h5,rfl⟩,F3⟩
   ·exact ⟨.inr ⟨id,h5,rfl⟩,F3⟩
theorem xZ {c:Code} {en:En} {fr:FX} {l:Loc} {h:Hp} {k:Kc} {r:List Prop} (hG:cx.G.length<=64) (hf:tY P cx nt c en fr l h k r (iq cx 0)):
  ∃ e fr' h',k e fr' h'=some r/\aM h.fl h h'/\oC P cx nt c en fr l h en0 fr' [] h' (fun e'=>if e=0 then e'= .normal else nH e e'):=by
 rcases hf with ⟨en',fr',l',h',g1,g2,g3,g4⟩|⟨e,fr',h',g0,g1,g3,g4⟩
 ·obtain ⟨rQ,q1,q2⟩:=FY hG g2 g1
  exact ⟨0,rQ,h',q1,g3,g4.mono q2 fun Q a w hw hR Q' hQ=>Code.wp_mono (fun e a w hh=>hQ e a w hh e (by have:=hR e a w hh;simpa using this)) hw⟩
 ·exact ⟨e,fr',h',g1,g3,g4.mono (.refl _) fun Q a w hw hR Q' hQ=>Code.wp_mono (fun e' a w hh=>hQ e' a w hh e' (by rw [if_neg g0];exact hR e' a w hh)) hw⟩
theorem Lh (hcl:gu P cx.cl) (hdr:Lg P cx nt) (hm:P.follows .mixedOrders=true) (hG:cx.G.length<=64) (c:Code):∀ (sc:SCode),stripCode P c=some sc->jo nt cx.PV cx.FL sc=true->
  ∀ {en:En} {fr:FX} {l:Loc} {h:Hp} {k:Kc} {r:List Prop} {kn:En->FR},Wf cx en l->h.fl<=h.n->(jq cx sc en kn).f fr l h k=some r->tY P cx nt c en fr l h k r kn:=by
 induction c with
 |skip=>
  intro sc hs _ en fr l h k r kn hw hfn e
  cases hs
  exact .inl ⟨en,fr,l,h,e,hw,.refl _ _,fun _ B a w _ _ _ hA=>wp_skip ⟨rfl,hA⟩⟩
 |region id ops draw=>
  intro sc hs hok en fr l h k r kn hw hfn e
  simp only [stripCode] at hs
  split at hs
  ·rename_i sl hl
   cases hs
   simp only [jo,Bool.and_eq_true] at hok
   cases draw with
   |true=>
    have hok2:iL cx.PV cx.FL sl=true:=by simpa using hok.2
    obtain ⟨hwA,amQ⟩:=amO (fr:=fr) hw
    obtain ⟨en',l',h',g1,g2,g3,g4⟩:=hdr ops hl hok.1 hok2 e hwA rfl hfn
    refine .inl ⟨en',fr,l',h',g1,g2,g3,fun hfa B a w dB dI dR hA=>wp_region_any hm ?_⟩
    refine g4 hfa B a _ _ dB dI dR ?_ fun a' w' hA'=>⟨rfl,hA'⟩
    obtain ⟨V,γ,hs⟩:=hA.le amQ
    refine ⟨V,γ,⟨⟨hs.mr.nb,fun b hb=>(hs.mr.bl b hb).world rfl,hs.mr.inj,hs.mr.nw,hs.mr.old,hs.mr.sz,hs.mr.os,hs.mr.tape,hs.mr.output,hs.mr.ar⟩,⟨hs.bS.ext,hs.bS.new,hs.bS.keep,hs.bS.size⟩,hs.tm,fun p x hp=> ?_,hs.inj,hs.df,hs.sz,hs.b0⟩⟩
    exact hs.vr p x hp
   |false=>
    obtain ⟨en',l',h',g1,g2,g3,g4⟩:=R4 (nt:=nt) hcl ops.toList hl hok.1 e hw hfn
    exact .inl ⟨en',fr,l',h',g1,g2,g3,fun hfa B a w dB dI dR hA=>wp_region_list (g4 hfa B a w _ dB dI dR hA fun a' w' hA'=>⟨rfl,hA'⟩)⟩
  ·cases hs
 |seq x y sM ihy=>
  intro sc hs hok en fr l h k r kn hw hfn e
  simp only [stripCode] at hs
  split at hs
  ·rename_i x' hx
   split at hs
   ·rename_i y' hy
    cases hs
    simp only [jo,Bool.and_eq_true] at hok
    have e1:(jq cx x' en fun en=>jq cx y' en kn).f fr l h k=some r:=e
    rcases sM x' hx hok.1 hw hfn e1 with ⟨R5,lT,l1,h1,g1,g2,g3,g4⟩|⟨e',lT,h1,g0,g1,g3,g4⟩
    ·rcases ihy y' hy hok.2 g2 (g3.Db hfn) g1 with ⟨dQ,rQ,l2,h2,q1,q2,q3,q4⟩|⟨e',rQ,h2,q0,q1,q3,q4⟩
     ·refine .inl ⟨dQ,rQ,l2,h2,q1,q2,g3.tr q3,fun hfa B a w dB dI dR hA=>wp_seq (Code.wp_mono (fun ex a' w' hh=> ?_) (g4 (fun p hp=>hfa p (q3.fa p hp)) B a w dB dI dR hA))⟩
      obtain ⟨rfl,hA'⟩:=hh
      exact q4 hfa B a' w' (dB.trans g3.fe.symm) (dI.trans (by rw [dB];exact g3)) dR hA'
     ·refine .inr ⟨e',rQ,h2,q0,q1,g3.tr q3,fun hfa B a w dB dI dR hA=>wp_seq (Code.wp_mono (fun ex a' w' hh=> ?_) (g4 (fun p hp=>hfa p (q3.fa p hp)) B a w dB dI dR hA))⟩
      obtain ⟨rfl,hA'⟩:=hh
      exact q4 hfa B a' w' (dB.trans g3.fe.symm) (dI.trans (by rw [dB];exact g3)) dR hA'
    ·refine .inr ⟨e',lT,h1,g0,g1,g3,fun hfa B a w dB dI dR hA=>wp_seq (Code.wp_mono (fun ex a' w' hh=> ?_) (g4 hfa B a w dB dI dR hA))⟩
     obtain ⟨hR,hA'⟩:=hh
     rcases hR with ⟨h5,rfl⟩|⟨id,h5,rfl⟩
     ·exact ⟨.inl ⟨h5,rfl⟩,hA'⟩
     ·exact ⟨.inr ⟨id,h5,rfl⟩,hA'⟩
   ·cases hs
  ·cases hs
 |cond c x y sM ihy=>
  intro sc hs hok en fr l h k r kn hw hfn e
  simp only [stripCode] at hs
  split at hs
  ·rename_i x' hx
   split at hs
   ·rename_i y' hy
    cases hs
    simp only [jo,Bool.and_eq_true] at hok
    have e1:(oR (bN cx en c) fun t=>cnd (Ab x') (CJ t (jq cx x' en fun _=>bM) (jq cx y' en kn)) (cnd (Ab y') (CJ t (jq cx x' en kn) (jq cx y' en fun _=>bM)) (Q5 t (jq cx x' en (iq cx 0)) (jq cx y' en (iq cx 0)) (kn en0)))).f fr l h k=some r:=e
    obtain ⟨t,ht,e2⟩:=dZ e1
    have hden:∀ {B:Bs} {a:Act} {w:World},At cx B en fr l h a w->∃ V,den V (t.g fr l) (a.eval c):=fun {B a w} hA=>by
     obtain ⟨V,γ,hs⟩:=hA
     exact ⟨V,fI (LT:=bZ c) hw (fun k _ sv hk=>hs.tm k sv hk) (fun j hj=>hj) ht⟩
    have R7:∀ {en' fr' l' h' R},(t.g fr l).n=33->oC P cx nt x en fr l h en' fr' l' h' R->oC P cx nt (.cond c x y) en fr l h en' fr' l' h' R:=fun {en' fr' l' h' R} hn hs hfa B a w h1 h2 h3 hA=>by
     obtain ⟨V,hd⟩:=hden hA
     exact wp_cond_split (vk hn hd) (fun _=>hs hfa B a w h1 h2 h3 hA) (fun h=>by cases h)
    have R8:∀ {en' fr' l' h' R},(t.g fr l).n=1->oC P cx nt y en fr l h en' fr' l' h' R->oC P cx nt (.cond c x y) en fr l h en' fr' l' h' R:=fun {en' fr' l' h' R} hn hs hfa B a w h1 h2 h3 hA=>by
     obtain ⟨V,hd⟩:=hden hA
     exact wp_cond_split (zS hn hd) (fun h=>by cases h) (fun _=>hs hfa B a w h1 h2 h3 hA)
    have fX:∀ {k r kn},(t.g fr l).n=33->tY P cx nt x en fr l h k r kn->tY P cx nt (.cond c x y) en fr l h k r kn:=fun {k r kn} hn hf=>by
     rcases hf with ⟨en',fr',l',h',g1,g2,g3,g4⟩|⟨e,fr',h',g0,g1,g3,g4⟩
     ·exact .inl ⟨en',fr',l',h',g1,g2,g3,R7 hn g4⟩
     ·exact .inr ⟨e,fr',h',g0,g1,g3,R7 hn g4⟩
    have fY:∀ {k r kn},(t.g fr l).n=1->tY P cx nt y en fr l h k r kn->tY P cx nt (.cond c x y) en fr l h k r kn:=fun {k r kn} hn hf=>by
     rcases hf with ⟨en',fr',l',h',g1,g2,g3,g4⟩|⟨e,fr',h',g0,g1,g3,g4⟩
     ·exact .inl ⟨en',fr',l',h',g1,g2,g3,R8 hn g4⟩
     ·exact .inr ⟨e,fr',h',g0,g1,g3,R8 hn g4⟩
    have bad:∀ {c:Code},tY P cx nt c en fr l h k r (fun _=>bM)->tY P cx nt c en fr l h k r kn:=fun {c} hf=>by
     rcases hf with ⟨en',fr',l',h',g1,_⟩|hh
     ·cases g1
     ·exact .inr hh
    have two:∀ {X Y:FR},(CJ t X Y).f fr l h k=some r->((t.g fr l).n=33/\X.f fr l h k=some r)\/((t.g fr l).n=1/\Y.f fr l h k=some r):=fun {X Y} e=>by
     have e':ah (Nat.beq (t.g fr l).n 33) (X.f fr l h k) (ah (Nat.beq (t.g fr l).n 1) (Y.f fr l h k) none)=some r:=e
     rcases aF e' with ⟨h1,h2⟩|⟨_,h2⟩
     ·exact .inl ⟨aC h1,h2⟩
     ·obtain ⟨h1,h2⟩:=aI h2
      exact .inr ⟨aC h1,h2⟩
    cases hnx:Ab x' with
    |true=>
     rw [hnx] at e2
     rcases two e2 with ⟨hn,e3⟩|⟨hn,e3⟩
     ·exact fX hn (bad (sM x' hx hok.1 hw hfn e3))
     ·exact fY hn (ihy y' hy hok.2 hw hfn e3)
    |false=>
     rw [hnx] at e2
     cases hny:Ab y' with
     |true=>
      rw [hny] at e2
      rcases two e2 with ⟨hn,e3⟩|⟨hn,e3⟩
      ·exact fX hn (sM x' hx hok.1 hw hfn e3)
      ·exact fY hn (bad (ihy y' hy hok.2 hw hfn e3))
     |false=>
      rw [hny] at e2
      have e3:ah (Nat.beq (t.g fr l).n 33) ((jq cx x' en (iq cx 0)).f fr l h fun e fr h=>ah (Nat.beq e 0) ((kn en0).f fr [] h k) (k e fr h)) (ah (Nat.beq (t.g fr l).n 1) ((jq cx y' en (iq cx 0)).f fr l h fun e fr h=>ah (Nat.beq e 0) ((kn en0).f fr [] h k) (k e fr h)) none)=some r:=e2
      have fin:∀ {c:Code},(∃ e fr' h',ah (Nat.beq e 0) ((kn en0).f fr' [] h' k) (k e fr' h')=some r/\aM h.fl h h'/\oC P cx nt c en fr l h en0 fr' [] h' (fun e'=>if e=0 then e'= .normal else nH e e'))->tY P cx nt c en fr l h k r kn:=fun {c} hh=>by
       obtain ⟨e,fr',h',g1,g2,g3⟩:=hh
       rcases aF g1 with ⟨t0,g4⟩|⟨t0,g4⟩
       ·have t0:=aC t0
        subst t0
        exact .inl ⟨en0,fr',[],h',g4,Wf.zero cx,g2,by simpa using g3⟩
       ·have t0:=gq t0
        exact .inr ⟨e,fr',h',t0,g4,g2,by simpa [t0] using g3⟩
      rcases aF e3 with ⟨h1,h2⟩|⟨_,h2⟩
      ·exact fX (aC h1) (fin (xZ hG (sM x' hx hok.1 hw hfn h2)))
      ·obtain ⟨h1,h2⟩:=aI h2
       exact fY (aC h1) (fin (xZ hG (ihy y' hy hok.2 hw hfn h2)))
   ·cases hs
  ·cases hs
 |block id c ih=>
  intro sc hs hok en fr l h k r kn hw hfn e
  simp only [stripCode] at hs
  split at hs
  ·rename_i c' hc
   cases hs
   simp only [jo] at hok
   have e1:(jq cx c' en (iq cx 0)).f fr l h (fun e fr h=>ah (Nat.beq e 0) ((kn en0).f fr [] h k) (ah (Nat.beq e (Nat.add id 2)) ((kn en0).f fr [] h k) (k e fr h)))=some r:=e
   obtain ⟨e0,fr',h',g1,g2,g3⟩:=xZ hG (ih c' hc hok hw hfn e1)
   rcases aF g1 with ⟨t0,g4⟩|⟨t0,g4⟩
   ·have t0:=aC t0
    subst t0
    refine .inl ⟨en0,fr',[],h',g4,Wf.zero cx,g2,fun hfa B a w dB dI dR hA=>wp_block (Code.wp_mono (fun ex a' w' hh=> ?_) (g3 hfa B a w dB dI dR hA))⟩
    obtain ⟨hR,hA'⟩:=hh
    simp only [if_true] at hR
    subst hR
    exact ⟨rfl,hA'⟩
   ·have t0:=gq t0
    rcases aF g4 with ⟨t1,g5⟩|⟨t1,g5⟩
    ·have t1:e0=id+2:=aC t1
     refine .inl ⟨en0,fr',[],h',g5,Wf.zero cx,g2,fun hfa B a w dB dI dR hA=>wp_block (Code.wp_mono (fun ex a' w' hh=> ?_) (g3 hfa B a w dB dI dR hA))⟩
     obtain ⟨hR,hA'⟩:=hh
     rw [if_neg t0] at hR
     rcases hR with ⟨h5,_⟩|⟨id',h5,rfl⟩
     ·omega
     ·have:id'=id:=by omega
      subst this
      simp only [Exit.inBlock,if_true]
      exact ⟨trivial,hA'⟩
    ·have t1:e0≠id+2:=gq t1
     refine .inr ⟨e0,fr',h',t0,g5,g2,fun hfa B a w dB dI dR hA=>wp_block (Code.wp_mono (fun ex a' w' hh=> ?_) (g3 hfa B a w dB dI dR hA))⟩
     obtain ⟨hR,hA'⟩:=hh
     rw [if_neg t0] at hR
     rcases hR with ⟨h5,rfl⟩|⟨id',h5,rfl⟩
     ·exact ⟨.inl ⟨h5,rfl⟩,hA'⟩
     ·simp only [Exit.inBlock]
      rw [if_neg (by omega)]
      exact ⟨.inr ⟨id',h5,rfl⟩,hA'⟩
  ·cases hs
 |loop c ih=>
  intro sc hs hok en fr l h k r kn hw hfn e
  simp only [stripCode] at hs
  split at hs
  ·rename_i c' hc
   cases hs
   simp only [jo] at hok
   have e1:(iq cx 0 en).f fr l h (fun _ fr h=>(Fq (jq cx c' en0 (iq cx 0)) cx.fu).f fr [] h k)=some r:=e
   obtain ⟨lT,e2,hle⟩:=FY hG hw e1
   generalize cx.fu=n at e2
   obtain ⟨e0,fr',h',g0,g1,g2,g3⟩:=R6 (P:=P) (cx:=cx) (nt:=nt) (c:=c) (f:=jq cx c' en0 (iq cx 0)) (fun hfn e=>xZ hG (ih c' hc hok (Wf.zero cx) hfn e)) n hfn e2
   refine .inr ⟨e0,fr',h',g0,g1,g2,fun hfa B a w dB dI dR hA=> ?_⟩
   have h4:=g3 hfa B a w dB dI dR (hA.le hle)
   exact wp_loop_rounds (Q:=fun e' a' w'=>nH e0 e'/\At cx B en0 fr' [] h' a' w') n h4
  ·cases hs
 |exit id=>
  intro sc hs _ en fr l h k r kn hw hfn e
  cases hs
  obtain ⟨lT,e2,hle⟩:=FY hG hw e
  exact .inr ⟨id+2,lT,h,by omega,e2,.refl _ _,fun _ B a w _ _ _ hA=>wp_exit ⟨.inr ⟨id,rfl,rfl⟩,hA.le hle⟩⟩
 |ret=>
  intro sc hs _ en fr l h k r kn hw hfn e
  cases hs
  obtain ⟨lT,e2,hle⟩:=FY hG hw e
  exact .inr ⟨1,lT,h,by omega,e2,.refl _ _,fun _ B a w _ _ _ hA=>wp_ret ⟨.inl ⟨rfl,rfl⟩,hA.le hle⟩⟩
 |_=>intro sc hs;simp [stripCode] at hs
end
end
end Go.M
namespace Go.M
open Go
open Go.Eng (SOp SOper SCode stripOper stripOps stripCode)
noncomputable section
variable [aY]
theorem R9 (a b c d e f g i:X) (j:Nat) (h:j<64):aW (⟨⟨⟨a,b,c,d⟩,⟨e,f,g,i⟩,f4 xU,f4 xU⟩,f4 (f4 xU),f4 (f4 xU),f4 (f4 xU)⟩:T3) j=[a,b,c,d,e,f,g,i].getD j xU:=by
 match j,h with
 |0,_=>rfl
 |1,_=>rfl
 |2,_=>rfl
 |3,_=>rfl
 |4,_=>rfl
 |5,_=>rfl
 |6,_=>rfl
 |7,_=>rfl
 |8,_=>rfl
 |9,_=>rfl
 |10,_=>rfl
 |11,_=>rfl
 |12,_=>rfl
 |13,_=>rfl
 |14,_=>rfl
 |15,_=>rfl
 |16,_=>rfl
 |17,_=>rfl
 |18,_=>rfl
 |19,_=>rfl
 |20,_=>rfl
 |21,_=>rfl
 |22,_=>rfl
 |23,_=>rfl
 |24,_=>rfl
 |25,_=>rfl
 |26,_=>rfl
 |27,_=>rfl
 |28,_=>rfl
 |29,_=>rfl
 |30,_=>rfl
 |31,_=>rfl
 |32,_=>rfl
 |33,_=>rfl
 |34,_=>rfl
 |35,_=>rfl
 |36,_=>rfl
 |37,_=>rfl
 |38,_=>rfl
 |39,_=>rfl
 |40,_=>rfl
 |41,_=>rfl
 |42,_=>rfl
 |43,_=>rfl
 |44,_=>rfl
 |45,_=>rfl
 |46,_=>rfl
 |47,_=>rfl
 |48,_=>rfl
 |49,_=>rfl
 |50,_=>rfl
 |51,_=>rfl
 |52,_=>rfl
 |53,_=>rfl
 |54,_=>rfl
 |55,_=>rfl
 |56,_=>rfl
 |57,_=>rfl
 |58,_=>rfl
 |59,_=>rfl
 |60,_=>rfl
 |61,_=>rfl
 |62,_=>rfl
 |63,_=>rfl
 |n+64,h=>exact absurd h (by omega)
theorem Sb:∀ (i:Nat) (xs:List X),(Q7 i).g xs=xs.getD i rM
 |0,[]=>rfl
 |0,x::xs=>rfl
 |i+1,[]=>rfl
 |i+1,x::xs=>Sb i xs
theorem oF (n i:Nat) (xs:List X):g1 n i xs=if i<n then xs.getD i rM else xU:=by
 unfold g1
 rw [fq,Sb]
 by_cases h:i<n
 ·rw [if_pos h,if_pos (by simpa [Nat.blt_eq] using h)]
 ·rw [if_neg h,if_neg (by simpa [Nat.blt_eq] using h)]
theorem Sc {n:Nat} (hn:n<=8) (xs:List X) {j:Nat} (hj:j<64):aW ((nk n).g xs) j=if j<n then xs.getD j rM else xU:=by
 unfold nk
 rw [fq,fq]
 have big:∀ m,8<=m->(fun (a b c d e f g i:X)=>[a,b,c,d,e,f,g,i].getD m xU)=fun _ _ _ _ _ _ _ _=>xU:=fun m hm=>by
  funext a b c d e f g i
  rw [List.getD_eq_getElem?_getD,List.getElem?_eq_none (by simpa using hm)];rfl
 by_cases h4:n<=4
 ·rw [if_pos (by simpa [Nat.ble_eq] using h4)]
  have:=R9 (g1 n 0 xs) (g1 n 1 xs) (g1 n 2 xs) (g1 n 3 xs) xU xU xU xU j hj
  refine Eq.trans this ?_
  match j with
  |0=>exact oF n 0 xs
  |1=>exact oF n 1 xs
  |2=>exact oF n 2 xs
  |3=>exact oF n 3 xs
  |4=>rw [if_neg (by omega)];rfl
  |5=>rw [if_neg (by omega)];rfl
  |6=>rw [if_neg (by omega)];rfl
  |7=>rw [if_neg (by omega)];rfl
  |m+8=>rw [if_neg (by omega)];exact congrFun (congrFun (congrFun (congrFun (congrFun (congrFun (congrFun (congrFun (big (m+8) (by omega)) _) _) _) _) _) _) _) _
 ·rw [if_neg (by simpa [Nat.ble_eq] using h4),if_pos (by simpa [Nat.ble_eq] using hn)]
  have:=R9 (g1 n 0 xs) (g1 n 1 xs) (g1 n 2 xs) (g1 n 3 xs) (g1 n 4 xs) (g1 n 5 xs) (g1 n 6 xs) (g1 n 7 xs) j hj
  refine Eq.trans this ?_
  match j with
  |0=>exact oF n 0 xs
  |1=>exact oF n 1 xs
  |2=>exact oF n 2 xs
  |3=>exact oF n 3 xs
  |4=>exact oF n 4 xs
  |5=>exact oF n 5 xs
  |6=>exact oF n 6 xs
  |7=>exact oF n 7 xs
  |m+8=>rw [if_neg (by omega)];exact congrFun (congrFun (congrFun (congrFun (congrFun (congrFun (congrFun (congrFun (big (m+8) (by omega)) _) _) _) _) _) _) _) _
theorem x9:∀ {n j:Nat} {G:List Nat},Fu n j G=true->∀ i,i<n->G[i]? =some (j+i)
 |0,j,G,_,i,hi=>absurd hi (Nat.not_lt_zero _)
 |n+1,j,[],h,i,hi=>by cases h
 |n+1,j,g::G,h,i,hi=>by
  simp only [Fu,Bool.and_eq_true] at h
  cases i with
  |zero=>simp [aC h.1]
  |succ i=>
   have:=x9 h.2 i (by omega)
   rw [List.getElem?_cons_succ,this];congr 1;omega
theorem Li:∀ {G:List Nat},nodupB G=true->∀ {i k:Nat},G[i]? =some k->ix G k=some i
 |[],_,i,k,h=>by simp at h
 |g::G,hn,i,k,h=>by
  simp only [nodupB,Bool.and_eq_true,Bool.not_eq_true'] at hn
  show cnd (Nat.beq g k) (some 0) (@Option.rec Nat (fun _=>Option Nat) none (fun i=>some (Nat.succ i)) (ix G k))=some i
  rw [fq,tT]
  cases i with
  |zero=>simp at h;subst h;simp
  |succ i=>
   have h':G[i]? =some k:=by simpa using h
   have hne:g≠k:=fun e=>by
    subst e
    have:mem G g=true:=(mem_iff G g).2 (List.mem_iff_getElem?.2 ⟨i,h'⟩)
    rw [hn.1] at this;cases this
   simp only [hne,decide_false,Bool.false_eq_true,if_false]
   rw [Li hn.2 h']
def vR (P:Program):List ResultVar->Option (List fP)
 |[]=>some []
 | .tmp k::l=>match vR P l with
  |some r=>some (.tmp k::r)
  |none=>none
 | .cell k ty::l=>match Go.Eng.aggP P ty,Go.Eng.sizeP P ty,vR P l with
  |some ag,some sz,some r=>some (.cell k ag sz::r)
  |_,_,_=>none
def nR (tmps:Array Value):ResultVar->Sem Value
 | .tmp t=>pure (tmps.getD t undef)
 | .cell a t=>do loadVar t (<-asAddr (tmps.getD a undef))
section
variable {P:Program} {cx:Cx}
theorem Bw {fn:Func} (tmps:Array Value) (w:World) {l:List ResultVar} (hl:fn.results.toList=l) {vs:List Value} (h1:vs.length=l.length) (h3:l.length<=5)
  (hv:∀ (i:Nat) (x:ResultVar) (v:Value),l[i]? =some x->vs[i]? =some v->(nR tmps x).run P w= .ok v w):
  (results fn tmps).run P w= .ok (if h:vs.length=1 then vs[0] else .tuple vs.toArray) w:=by
 have he:fn.results=l.toArray:=by rw [<-hl]
 have e0:results fn tmps=(do let vs <-l.toArray.mapM (nR tmps);pure (if h:vs.size=1 then vs[0] else .tuple vs)):=by
  rw [<-he]
  unfold results
  rfl
 rw [e0]
 clear he e0
 subst hl
 revert hv h1 h3
 generalize fn.results.toList=l
 intro h1 h3 hv
 match l,vs,h1,hv with
 |[],[],_,_=>simp
 |[x],[v],_,hv=>
  have:=(hv 0 x v rfl rfl)
  simp [this]
 |[x,y],[v,u],_,hv=>
  have e1:=(hv 0 x v rfl rfl)
  have e2:=(hv 1 y u rfl rfl)
  simp [e1,e2]
 |[x,y,z],[v,u,q],_,hv=>
  have e1:=(hv 0 x v rfl rfl)
  have e2:=(hv 1 y u rfl rfl)
  have e3:=(hv 2 z q rfl rfl)
  simp [e1,e2,e3]
 |[x,y,z,x'],[v,u,q,v'],_,hv=>
  have e1:=(hv 0 x v rfl rfl)
  have e2:=(hv 1 y u rfl rfl)
  have e3:=(hv 2 z q rfl rfl)
  have e4:=(hv 3 x' v' rfl rfl)
  simp [e1,e2,e3,e4]
 |[x,y,z,x',y'],[v,u,q,v',u'],_,hv=>
  have e1:=(hv 0 x v rfl rfl)
  have e2:=(hv 1 y u rfl rfl)
  have e3:=(hv 2 z q rfl rfl)
  have e4:=(hv 3 x' v' rfl rfl)
  have e5:=(hv 4 y' u' rfl rfl)
  simp [e1,e2,e3,e4,e5]
 |_::_::_::_::_::_::_,_,_,_=>simp at h3
theorem amR {ty:TypeId} {sz g off:Nat} {u:Value} {w:World} {vs:List Value} (ha:Go.Eng.aggP P ty=some true) (hs:Go.Eng.sizeP P ty=some sz) (hx:u= .pointer (some ⟨g,off,none⟩))
  (hl:vs.length=sz) (hc:∀ j v,vs[j]? =some v->w.cell? ⟨g,off+j,none⟩=some v):(do loadVar ty (<-asAddr u):Sem Value).run P w= .ok (.agg vs.toArray) w:=by
 have hL:=run_loadCells_list (P:=P) w ⟨g,off,none⟩ vs (fun j v hj=>by
  rw [Ct];exact hc j v hj)
 subst hl;subst hx
 simp only [asAddr,loadVar,Sem.run_bind,Go.Eng.jR ha,Go.Eng.cu hs,Result.andThen_ok,if_true,hL,Sem.run_pure]
theorem amS {ty:TypeId} {g off:Nat} {u:Value} {w:World} {v:Value} (ha:Go.Eng.aggP P ty=some false) (hx:u= .pointer (some ⟨g,off,none⟩))
  (hc:w.cell? ⟨g,off,none⟩=some v):(do loadVar ty (<-asAddr u):Sem Value).run P w= .ok v w:=by
 subst hx
 simp [asAddr,loadVar,Go.Eng.jR ha,hc]
theorem F4 {fr:FX} {h:Hp}:∀ (lr:List ResultVar) {res:List fP} {kk:List X->R} {r},vR P lr=some res->(iW cx res).f fr h kk=some r->∃ ys,kk ys=some r/\
  ∀ (B:Bs) V γ a w,SR B V h w a γ (aX cx en0 fr [])->∃ vs:List Value,vs.length=lr.length/\aU V ys vs/\∀ (i:Nat) (x:ResultVar) (v:Value),lr[i]? =some x->vs[i]? =some v->(nR a.tmps x).run P w= .ok v w
 |[],res,kk,r,hr,e=>by
  simp only [vR,Option.some.injEq] at hr
  subst hr
  exact ⟨[],e,fun B V γ a w _=>⟨[],rfl,dA.2 rfl,fun i x v h=>by simp at h⟩⟩
 | .tmp t::lr,res,kk,r,hr,e=>by
  simp only [vR] at hr
  split at hr
  ·rename_i vS hr'
   cases hr
   cases hpv:mem cx.PV t with
   |true=>
    have e1:(@Option.rec Nat (fun _=>iV) ⟨fun _ _ _=>none⟩ (fun j=>⟨fun fr h k=>opn ((eP.get j).g fr) fun a m o=>(iW cx vS).f fr h fun xs=>k (⟨a,m,o⟩::xs)⟩) (cnd (mem cx.PV t) none (ix cx.G t)):iV).f fr h kk=some r:=e
    rw [hpv] at e1;cases e1
   |false=>
    have e1:(@Option.rec Nat (fun _=>iV) ⟨fun _ _ _=>none⟩ (fun j=>⟨fun fr h k=>opn ((eP.get j).g fr) fun a m o=>(iW cx vS).f fr h fun xs=>k (⟨a,m,o⟩::xs)⟩) (cnd (mem cx.PV t) none (ix cx.G t)):iV).f fr h kk=some r:=e
    rw [hpv] at e1
    cases hj:ix cx.G t with
    |none=>rw [hj] at e1;cases e1
    |some j=>
     rw [hj] at e1
     have e2:opn (aW fr j) (fun a m o=>(iW cx vS).f fr h fun xs=>kk (⟨a,m,o⟩::xs))=some r:=e1
     rw [fo] at e2
     obtain ⟨ys,e3,hy⟩:=F4 lr hr' e2
     refine ⟨aW fr j::ys,by cases hx:aW fr j;rw [hx] at e3;exact e3,fun B V γ a w hS=> ?_⟩
     obtain ⟨vs,h1,h2,h3⟩:=hy B V γ a w hS
     have ht:(aX cx en0 fr []).T t=some (.val (aW fr j)):=by
      show bU cx en0 fr [] t=_
      unfold bU
      show (if mem cx.PV t=true then _ else match ix cx.G t with
       |some j=>some (SV.val (aW fr j))
       |none=>none)=_
      rw [hpv,hj];rfl
     have hd:den V (aW fr j) (a.eval (.tmp t)):=hS.tm t _ ht
     refine ⟨a.eval (.tmp t)::vs,by simp [h1],dz.2 ⟨_,_,rfl,hd,h2⟩,fun i x v hi hv=> ?_⟩
     cases i with
     |zero=>
      simp at hi hv
      subst hi;subst hv
      show (pure (a.tmps.getD t undef):Sem Value).run P w=_
      rw [Sem.run_pure];rfl
     |succ i=>exact h3 i x v (by simpa using hi) (by simpa using hv)
  ·cases hr
 | .cell t ty::lr,res,kk,r,hr,e=>by
  simp only [vR] at hr
  split at hr
  ·rename_i ag sz vS ha hs hr'
   cases hr
   have e1:(@Option.rec Nat (fun _=>iV) ⟨fun _ _ _=>none⟩ (fun j=>cnd (mem cx.PV t) ⟨fun fr h k=>aJ ((eP.get j).g fr).n fun m=>ah (Nat.beq m 14) none (ou ag 0 sz ((eP.get j).g fr) h fun x _=>(iW cx vS).f fr h fun xs=>k (x::xs))⟩ ⟨fun _ _ _=>none⟩) (ix cx.G t):iV).f fr h kk=some r:=e
   cases hj:ix cx.G t with
   |none=>rw [hj] at e1;cases e1
   |some j=>
    rw [hj] at e1
    cases hpv:mem cx.PV t with
    |false=>
     have e2:(cnd (mem cx.PV t) (⟨fun fr h k=>aJ ((eP.get j).g fr).n fun m=>ah (Nat.beq m 14) none (ou ag 0 sz ((eP.get j).g fr) h fun x _=>(iW cx vS).f fr h fun xs=>k (x::xs))⟩:iV) ⟨fun _ _ _=>none⟩).f fr h kk=some r:=e1
     rw [hpv] at e2;cases e2
    |true=>
     have e2:(cnd (mem cx.PV t) (⟨fun fr h k=>aJ ((eP.get j).g fr).n fun m=>ah (Nat.beq m 14) none (ou ag 0 sz ((eP.get j).g fr) h fun x _=>(iW cx vS).f fr h fun xs=>k (x::xs))⟩:iV) ⟨fun _ _ _=>none⟩).f fr h kk=some r:=e1
     rw [hpv] at e2
     have e3:ah (Nat.beq (aW fr j).n 14) none (ou ag 0 sz (aW fr j) h fun x _=>(iW cx vS).f fr h fun xs=>kk (x::xs))=some r:=e2
     rcases aF e3 with ⟨_,e4⟩|⟨t14,e4⟩
     ·cases e4
     ·have fD:=gq t14
      obtain ⟨y,e5,C8⟩:=K6 e4
      obtain ⟨ys,e6,hy⟩:=F4 lr hr' e5
      refine ⟨y::ys,e6,fun B V γ a w hS=> ?_⟩
      obtain ⟨vs,h1,h2,h3⟩:=hy B V γ a w hS
      have hC:(aX cx en0 fr []).C t=some (aW fr j):=by
       show bf cx en0 fr [] t=_
       unfold bf
       show (if mem cx.PV t=true then match ix cx.G t with
        |some j=>if (aW fr j).n=14 then none else some (aW fr j)
        |none=>none
        else none)=_
       rw [hpv,hj];simp [fD]
      have hT:(aX cx en0 fr []).T t=some (.ptr t 0 true):=by
       show bU cx en0 fr [] t=_
       unfold bU
       have hC':bf cx en0 fr [] t=some (aW fr j):=hC
       show (if mem cx.PV t=true then (match bf cx en0 fr [] t with
        |some _=>some (SV.ptr t 0 true)
        |none=>none) else _)=_
       rw [hpv,hC'];rfl
      have hp:a.tmps.getD t undef= .pointer (some ⟨γ t,0,none⟩):=hS.tm t _ hT rfl
      obtain ⟨_,⟨cells,ety,c1,c2⟩,_⟩:=hS.vr t _ hC
      have hh:=C8 V cells c2
      have fin:∀ v,den V y v->(nR a.tmps (.cell t ty)).run P w= .ok v w->∃ vs:List Value,vs.length=(ResultVar.cell t ty::lr).length/\aU V (y::ys) vs/\∀ (i:Nat) (x:ResultVar) (v:Value),(ResultVar.cell t ty::lr)[i]? =some x->vs[i]? =some v->(nR a.tmps x).run P w= .ok v w:=fun v hd hrun=>by
       refine ⟨v::vs,by simp [h1],dz.2 ⟨_,_,rfl,hd,h2⟩,fun i x u hi hu=> ?_⟩
       cases i with
       |zero=>
        simp at hi hu
        subst hi;subst hu;exact hrun
       |succ i=>exact h3 i x u (by simpa using hi) (by simpa using hu)
      cases ag with
      |true=>
       simp only [if_true] at hh
       obtain ⟨us,q1,q2,q3⟩:=hh
       exact fin _ q1 (amR ha hs hp q2 fun j v hj=>by rw [Go.Eng.lC c1];exact q3 j v hj)
      |false=>
       simp only [Bool.false_eq_true,if_false] at hh
       obtain ⟨v,q1,q2⟩:=hh
       exact fin v q1 (amS ha hp (by rw [Go.Eng.lC c1];exact q2))
  ·cases hr
structure aj (P:Program) (g:FuncId) (F:ai):Prop where
 fn:∃ fn c,P.funcs[g]? =some fn/\(fn.name== "runtime.NumGoroutine")=false/\fn.body=some c/\stripCode P c=some F.sc/\vR P fn.results.toList=some F.res/\fn.results.toList.length<=5/\F.na<=fn.ntmps/\jo fn.ntmps F.PV F.FL F.sc=true
 mixed:P.follows .mixedOrders=true
theorem Sd {cl:Nat->FC} {g:FuncId} {F:ai} (hcl:gu P cl) (hdr:∀ cx nt,cx.cl=cl->Lg P cx nt) (hF:aj P g F):iy P g (rO cl F):=by
 intro xs h k r hfn e
 unfold rO at e
 cases hok:okF F with
 |false=>rw [hok] at e;cases e
 |true=>
  rw [hok] at e
  generalize hcx:(⟨cl,F.G,F.PV,F.FL,CG⟩:Cx)=cx at e
  have hc1:cx.cl=cl:=by subst hcx;rfl
  have hc2:cx.G=F.G:=by subst hcx;rfl
  have hc3:cx.PV=F.PV:=by subst hcx;rfl
  have hc4:cx.FL=F.FL:=by subst hcx;rfl
  have e0:ah (Nat.beq (di xs) F.na) ((jq cx F.sc en0 (iq cx 0)).f ((nk F.na).g xs) [] h fun e fr h=>ah (Nat.ble e 1) ((iW cx F.res).f fr h fun ys=>eD ys (k ⟨3,[],oZ⟩ h) fun y t=>eD t (k y h) fun _ _=>k ⟨3,ys,oZ⟩ h) none) none=some r:=e
  obtain ⟨hlen,e1⟩:=aI e0
  rw [lM] at hlen
  have hlen:xs.length=F.na:=aC hlen
  simp only [okF,Bool.and_eq_true,List.all_eq_true] at hok
  obtain ⟨ho1,ho2,ho3,Lj,Ll⟩:=hok
  have vU:cx.G.length<=64:=by rw [hc2];exact bI ho3
  have hna:F.na<=8:=bI Lj
  obtain ⟨⟨fn,c,q1,q2,q3,q4,q5,q6,q7,q8⟩,tZ⟩:=hF
  have hfw:=Lh (nt:=fn.ntmps) (hc1▸hcl) (hdr cx fn.ntmps hc1) tZ vU c F.sc q4 (by rw [hc3,hc4];exact q8) (Wf.zero cx) hfn e1
  obtain ⟨e',fr',h',g1,g2,g3⟩:=xZ vU hfw
  obtain ⟨hle1,g4⟩:=aI g1
  have hle1:e'<=1:=bI hle1
  obtain ⟨ys,g5,hys⟩:=F4 fn.results.toList q5 g4
  have amT:∃ x,k x h'=some r/\∀ V (vs:List Value),aU V ys vs->den V x (if h:vs.length=1 then vs[0] else .tuple vs.toArray):=by
   match ys,g5 with
   |[],g5=>
    refine ⟨_,g5,fun V vs hv=> ?_⟩
    rw [dA.1 hv,dif_neg (by simp)]
    exact (xu (x:=⟨3,[],oZ⟩) rfl).2 ⟨[],rfl,dA.2 rfl⟩
   |[y],g5=>
    refine ⟨y,g5,fun V vs hv=> ?_⟩
    obtain ⟨v,r',rfl,h1,h2⟩:=dz.1 hv
    have:=dA.1 h2
    subst this
    simpa using h1
   |y::y2::ys',g5=>
    refine ⟨_,g5,fun V vs hv=> ?_⟩
    have hl:=jh hv
    rw [dif_neg (by rw [hl];simp)]
    exact (xu (x:=⟨3,y::y2::ys',oZ⟩) rfl).2 ⟨vs,rfl,hv⟩
  obtain ⟨x,g6,hx⟩:=amT
  refine ⟨x,h',g6,g2,fun hfa w0 V w vals hm hv=>⟨⟨fn,q1,q2,by rw [q3];rfl⟩,?_⟩⟩
  have hvl:vals.size=F.na:=by have:=jh hv;simp at this;omega
  let B:Bs:=⟨w0,h.fl,V,h,w,fn.ntmps⟩
  have hA:At cx B en0 ((nk F.na).g xs) [] h {tmps:=vals++Array.replicate (fn.ntmps - vals.size) undef,defers:=[]} w:=by
   have yc:∀ p,bf cx en0 ((nk F.na).g xs) [] p=none:=fun p=>by
    show (if mem cx.PV p=true then match ix cx.G p with
     |some j=>if (aW ((nk F.na).g xs) j).n=14 then none else some (aW ((nk F.na).g xs) j)
     |none=>none
     else none)=none
    split
    ·rename_i hpv
     cases hj:ix cx.G p with
     |none=>rfl
     |some j=>
      have hgj:=vL hj
      have yg:j<64:=Nat.lt_of_lt_of_le (List.getElem?_eq_some_iff.1 hgj).1 vU
      have amU:F.na<=p:=bI (Ll p ((mem_iff F.PV p).1 (by rw [<-hc3];exact hpv)))
      have hjn:¬ j<F.na:=fun hlt=>by
       have:=x9 ho1 j hlt
       rw [hc2,this] at hgj
       simp only [Option.some.injEq] at hgj
       omega
      simp only [Sc hna xs yg,if_neg hjn,if_true]
    ·rfl
   refine ⟨V,fun _=>0,hm,.refl ..,fun k' sv hk=> ?_,fun p y hp=> ?_,fun p q y z hp=> ?_,rfl,?_,hm.sz⟩
   ·have hk':(if mem cx.PV k'=true then (match bf cx en0 ((nk F.na).g xs) [] k' with
     |some _=>some (SV.ptr k' 0 true)
     |none=>none) else match ix cx.G k' with
      |some j=>some (SV.val (aW ((nk F.na).g xs) j))
      |none=>none)=some sv:=hk
    rw [yc] at hk'
    split at hk'
    ·cases hk'
    ·cases hj:ix cx.G k' with
     |none=>rw [hj] at hk';cases hk'
     |some j=>
      rw [hj] at hk'
      simp only [Option.some.injEq] at hk'
      subst hk'
      have hgj:=vL hj
      have yg:j<64:=Nat.lt_of_lt_of_le (List.getElem?_eq_some_iff.1 hgj).1 vU
      show den V (aW ((nk F.na).g xs) j) ((vals++Array.replicate (fn.ntmps - vals.size) undef).getD k' undef)
      rw [Sc hna xs yg]
      by_cases hlt:j<F.na
      ·rw [if_pos hlt]
       have:=x9 ho1 j hlt
       rw [hc2,this] at hgj
       simp only [Option.some.injEq,Nat.zero_add] at hgj
       subst hgj
       obtain ⟨v,h1,h2⟩:=mJ hv (i:=j) (x:=xs.getD j rM) (by rw [List.getD_eq_getElem?_getD,List.getElem?_eq_getElem (by omega)];rfl)
       have Lm:vals[j]? =some v:=by simpa using h1
       rw [Array.getD_eq_getD_getElem?,Array.getElem?_append,if_pos (by omega),Lm]
       exact h2
      ·rw [if_neg hlt]
       have hkn:¬ k'<F.na:=fun hk=>by
        have h1:=x9 ho1 k' hk
        rw [Nat.zero_add] at h1
        have h2:=Li ho2 h1
        rw [<-hc2,hj] at h2
        simp only [Option.some.injEq] at h2
        omega
       have:(vals++Array.replicate (fn.ntmps - vals.size) undef).getD k' undef=undef:=by
        rw [Array.getD_eq_getD_getElem?,Array.getElem?_append,if_neg (by omega)]
        rcases Nat.lt_or_ge (k' - vals.size) (fn.ntmps - vals.size) with hh|hh
        ·simp [hh]
        ·rw [Array.getElem?_eq_none (by simpa using hh)];rfl
       rw [this]
       exact mU
   ·have hp':bf cx en0 ((nk F.na).g xs) [] p=some y:=hp
    rw [yc] at hp';cases hp'
   ·have hp':bf cx en0 ((nk F.na).g xs) [] p=some y:=hp
    rw [yc] at hp';cases hp'
   ·show (vals++Array.replicate (fn.ntmps - vals.size) undef).size=fn.ntmps
    simp only [Array.size_append,Array.size_replicate]
    omega
  have hwp:=g3 hfa B _ w rfl (.refl _ _) rfl hA
  refine calls_of_wp q1 q3 (Code.wp_mono (fun ex a' w' hh=> ?_) hwp)
  obtain ⟨hR,V',γ',hS⟩:=hh
  obtain ⟨vs,z1,z2,z3⟩:=hys B V' γ' a' w' hS
  have hfin:a'.defers=[]/\∃ v,(results fn a'.tmps).run P w'= .ok v w'/\∃ v_1 sZ,Ending.returned v=Ending.returned v_1/\MR w0 sZ h' w'/\den sZ x v_1/\Stp h.fl V h w sZ w':=
   ⟨hS.df,_,Bw a'.tmps w' rfl z1 q6 z3,_,V',rfl,hS.mr,hx V' vs z2,hS.bS⟩
  by_cases h0:e'=0
  ·rw [if_pos h0] at hR
   subst hR
   exact hfin
  ·rw [if_neg h0] at hR
   rcases hR with ⟨_,rfl⟩|⟨id,h5,_⟩
   ·exact hfin
   ·omega
end
end
end Go.M
namespace Go.M
open Go
open Go.Eng (SOp SOper SCode stripOper stripOps stripCode)
noncomputable section
variable [aY]
def FD {β:Type} (u:Nat->Option (Nat×β)) (D:Nat->Bool) (t0:Nat->Option β):Nat->Nat->Option β
 |0,k=>t0 k
 |n+1,k=>match D n,u n with
  |true,some (k',v)=>if k'=k then some v else FD u D t0 n k
  |_,_=>FD u D t0 n k
def Key {β:Type} (u:Nat->Option (Nat×β)) (i k:Nat):Prop:=∃ v,u i=some (k,v)
section
variable {β:Type} {u:Nat->Option (Nat×β)} {t0:Nat->Option β}
theorem vV {D:Nat->Bool} {n k:Nat} {v:β} (hd:D n=true) (hu:u n=some (k,v)):FD u D t0 (n+1) k=some v:=by
 simp only [FD,hd,hu,if_true]
theorem kX {D:Nat->Bool} {n k:Nat} (h:D n=true->¬ Key u n k):FD u D t0 (n+1) k=FD u D t0 n k:=by
 simp only [FD]
 split
 ·rename_i k' v hd hu
  split
  ·rename_i e;subst e;exact absurd ⟨v,hu⟩ (h hd)
  ·rfl
 ·rfl
theorem Ao {D E:Nat->Bool} {k:Nat}:∀ {n:Nat},(∀ i,i<n->Key u i k->D i=E i)->FD u D t0 n k=FD u E t0 n k
 |0,_=>rfl
 |n+1,h=>by
  have ih:=Ao (n:=n) fun i hi=>h i (by omega)
  by_cases hk:Key u n k
  ·obtain ⟨v,hu⟩:=hk
   have:=h n (Nat.lt_succ_self _) ⟨v,hu⟩
   cases hd:D n with
   |true=>rw [vV hd hu,vV (this▸hd) hu]
   |false=>rw [kX (fun e=>by rw [hd] at e;cases e),kX (fun e=>by rw [<-this,hd] at e;cases e),ih]
  ·rw [kX (fun _=>hk),kX (fun _=>hk),ih]
theorem Sg {j k:Nat}:∀ {n:Nat},j<=n->FD u (fun i=>decide (i<j)) t0 n k=FD u (fun _=>true) t0 j k
 |0,h=>by
  have:j=0:=by omega
  subst this;rfl
 |n+1,h=>by
  by_cases e:j=n+1
  ·subst e
   exact Ao fun i hi _=>by simpa using hi
  ·rw [kX (fun e'=>by simp at e';omega),Sg (by omega)]
theorem Lp {D:Nat->Bool} {j k:Nat} (hj:D j=false):∀ {n:Nat},j<n->(∀ i,j<i->i<n->D i=true->Key u i k->¬ Key u j k)->
  FD u (fun i=>D i||i==j) t0 n k=match u j with
   |some (k',v)=>if k'=k then some v else FD u D t0 n k
   |none=>FD u D t0 n k
 |0,h,_=>absurd h (Nat.not_lt_zero _)
 |n+1,h,hd=>by
  by_cases e:j=n
  ·subst e
   have hsame:FD u (fun i=>D i||i==j) t0 j k=FD u D t0 j k:=Ao fun i hi _=>by
    have:(i==j)=false:=by simp;omega
    simp [this]
   have hoff:FD u D t0 (j+1) k=FD u D t0 j k:=kX (fun e=>by rw [hj] at e;cases e)
   rw [hoff]
   cases hu:u j with
   |none=>
    rw [kX (fun _ ⟨v,hv⟩=>by rw [hu] at hv;cases hv),hsame]
   |some q=>
    obtain ⟨k',v⟩:=q
    simp only
    split
    ·rename_i e;subst e;rw [vV (by simp) hu]
    ·rename_i e;rw [kX (fun _ ⟨v',hv⟩=>by rw [hu] at hv;cases hv;exact e rfl),hsame]
  ·have ih:=Lp hj (n:=n) (by omega) fun i h1 h2=>hd i h1 (by omega)
   have hne:(n==j)=false:=by simp;omega
   by_cases hk:D n=true/\Key u n k
   ·obtain ⟨hD,v,hv⟩:=hk
    rw [vV (by simp [hD]) hv,vV hD hv]
    have hnk:=hd n (by omega) (Nat.lt_succ_self _) hD ⟨v,hv⟩
    cases hu:u j with
    |none=>rfl
    |some q=>
     obtain ⟨k',v'⟩:=q
     simp only
     rw [if_neg (fun e=>hnk ⟨v',by rw [hu,e]⟩)]
   ·rw [kX (fun h1 h2=>hk ⟨by simpa [hne] using h1,h2⟩),kX (fun h1 h2=>hk ⟨h1,h2⟩),ih]
theorem F5 {D:Nat->Bool} {k:Nat} {v:β}:∀ {n:Nat},FD u D t0 n k=some v->t0 k=some v\/∃ i,i<n/\D i=true/\u i=some (k,v)
 |0,h=> .inl h
 |n+1,h=>by
  by_cases hk:D n=true/\Key u n k
  ·obtain ⟨hD,v',hv⟩:=hk
   rw [vV hD hv] at h
   cases h
   exact .inr ⟨n,Nat.lt_succ_self _,hD,hv⟩
  ·rw [kX (fun h1 h2=>hk ⟨h1,h2⟩)] at h
   rcases F5 h with h|⟨i,h1,h2,h3⟩
   ·exact .inl h
   ·exact .inr ⟨i,by omega,h2,h3⟩
theorem F6 {k:Nat}:∀ {n:Nat},FD u (fun _=>false) t0 n k=t0 k
 |0=>rfl
 |n+1=>by rw [kX (fun e=>by cases e),F6]
end
theorem Bj (acc:List Nat) (i:Nat):∀ (af:List Nat) (s:Nat),(af.foldl (fun s e=>s|||(2 ^ e|||acc.getD e 0)) s).testBit i=true->
  s.testBit i=true\/∃ e ∈ af,e=i\/(acc.getD e 0).testBit i=true
 |[],s,h=> .inl h
 |e::af,s,h=>by
  simp only [List.foldl_cons] at h
  rcases Bj acc i af _ h with h|⟨e',he',h⟩
  ·simp only [Nat.testBit_or,Bool.or_eq_true,Nat.testBit_two_pow,decide_eq_true_eq] at h
   rcases h with h|h|h
   ·exact .inl h
   ·exact .inr ⟨e,List.mem_cons_self ..,.inl h⟩
   ·exact .inr ⟨e,List.mem_cons_self ..,.inr h⟩
  ·exact .inr ⟨e',List.mem_cons_of_mem _ he',h⟩
def uI (as:List (List Nat)) (acc:List Nat):Prop:=
 ∀ (j m:Nat),acc[j]? =some m->∀ D:Nat->Bool,(∀ i af,D i=true->as[i]? =some af->∀ e ∈ af,D e=true)->(∀ af,as[j]? =some af->∀ e ∈ af,D e=true)->
  ∀ i,m.testBit i=true->D i=true
theorem yR (as:List (List Nat)):∀ (l:List (List Nat)) (acc:List Nat),as=as.take acc.length++l->acc.length<=as.length->uI as acc->uI as (ja acc l)
 |[],acc,_,_,h=>h
 |af::l,acc,he,hl,h=>by
  have cK:as[acc.length]? =some af:=by
   rw [he,List.getElem?_append_right (by simp;omega)]
   simp [Nat.min_eq_left hl]
  have hlt:acc.length<as.length:=(List.getElem?_eq_some_iff.1 cK).1
  refine yR as l _ ?_ (by simp;omega) ?_
  ·have e1:(acc++[af.foldl (fun s e=>s|||(2 ^ e|||acc.getD e 0)) 0]).length=acc.length+1:=by simp
   rw [e1,List.take_succ,cK]
   simpa using he
  ·intro j m hj D hD hj' i hi
   rw [List.getElem?_append] at hj
   split at hj
   ·exact h j m hj D hD hj' i hi
   ·rename_i hge
    have hj0:j - acc.length=0:=by
     rcases Nat.eq_zero_or_pos (j - acc.length) with e|e
     ·exact e
     ·rw [List.getElem?_eq_none (by simp;omega)] at hj;cases hj
    rw [hj0] at hj
    simp only [List.getElem?_cons_zero,Option.some.injEq] at hj
    have wO:j=acc.length:=by omega
    subst wO
    rw [<-hj] at hi
    rcases Bj acc i af 0 hi with h0|⟨e,he',h0⟩
    ·simp at h0
    ·have hDe:=hj' af cK e he'
     rcases h0 with rfl|h0
     ·exact hDe
     ·have hlt:e<acc.length:=by
       rcases Nat.lt_or_ge e acc.length with h1|h1
       ·exact h1
       ·rw [List.getD_eq_getElem?_getD,List.getElem?_eq_none h1] at h0
        simp at h0
      have hm:acc[e]? =some (acc.getD e 0):=by
       rw [List.getD_eq_getElem?_getD,List.getElem?_eq_getElem hlt];rfl
      exact h e _ hm D hD (fun Ii Ij e' Ik=>hD e Ii hDe Ij e' Ik) i h0
def Closed (sl:List SOper) (D:Nat->Bool):Prop:=∀ i o,D i=true->sl[i]? =some o->∀ e ∈ o.after,D e=true
def vW (FL:List Nat) (x:SOper) (r:Rs):Bool:=Nat.beq r.c 3||(Nat.beq r.c 4&& !(kV FL x))
structure F7 (FL:List Nat) (x y:SOper) (rx ry:Rs):Prop where
 ap:CF rx ry=true
 bx:vW FL x rx=true->ry.c=0\/p9 y.op=true
 aP:vW FL y ry=true->rx.c=0
theorem yh {α:Type} {l:List α} {p:α×Nat->Bool} (h:l.zipIdx.all p=true) (i:Nat) (x:α) (hx:l[i]? =some x):p (x,i)=true:=by
 rw [List.all_eq_true] at h
 refine h (x,i) (List.mem_iff_getElem?.2 ⟨i,?_⟩)
 rw [List.getElem?_zipIdx,hx];simp
theorem amV {PV FL:List Nat} {sl:List SOper} (h:iL PV FL sl=true):(∀ (j:Nat) o,sl[j]? =some o->∀ e ∈ o.after,e<j)/\
  ∀ (i j:Nat) x y,i<j->sl[i]? =some x->sl[j]? =some y->((ja [] (sl.map (·.after))).getD j 0).testBit i=true\/F7 FL x y (dF (aliases PV sl []) PV x) (dF (aliases PV sl []) PV y):=by
 unfold iL at h
 simp only [Bool.and_eq_true] at h
 obtain ⟨h1,h2,_⟩:=h
 unfold QZ at h1
 unfold Q0 at h2
 generalize hrs:sl.map (dF (aliases PV sl []) PV)=rs at h1 h2
 have hr:∀ (i:Nat) x,sl[i]? =some x->rs[i]? =some (dF (aliases PV sl []) PV x):=fun i x hx=>by rw [<-hrs,List.getElem?_map,hx];rfl
 have hz:∀ (i:Nat) x,sl[i]? =some x->(sl.zip rs)[i]? =some (x,dF (aliases PV sl []) PV x):=fun i x hx=>by rw [List.getElem?_zip_eq_some];exact ⟨hx,hr i x hx⟩
 refine ⟨fun j o ho e he=> ?_,fun i j x y hij hx hy=> ?_⟩
 ·have:=yh h1 j _ (hz j o ho)
  simp only [Bool.and_eq_true,List.all_eq_true] at this
  have:=this.1 e he
  simpa [Nat.blt_eq] using this
 ·have g1:=yh h1 j _ (hz j y hy)
  simp only [Bool.and_eq_true] at g1
  have g2:=yh g1.2 i _ (hr i x hx)
  simp only [Bool.or_eq_true,Bool.not_eq_true',Bool.eq_false_iff] at g2
  by_cases hb:((ja [] (sl.map (·.after))).getD j 0).testBit i=true
  ·exact .inl hb
  ·refine .inr ?_
   have amW:CF (dF (aliases PV sl []) PV x) (dF (aliases PV sl []) PV y)=true/\(Fj (dF (aliases PV sl []) PV x) (dF (aliases PV sl []) PV y)=true\/p9 y.op=true):=by
    rcases g2 with g2|g2|g2
    ·exact absurd (by simpa [Nat.blt_eq] using hij) g2
    ·exact absurd g2 hb
    ·simpa [Bool.and_eq_true,Bool.or_eq_true] using g2
   obtain ⟨hap,hac⟩:=amW
   have bF:∀ (a b:Nat) (x y:SOper),sl[a]? =some x->sl[b]? =some y->a≠b->max a b=j->min a b=i->(dF (aliases PV sl []) PV x).c=4->kV FL x=false->(dF (aliases PV sl []) PV y).c=0\/(p9 y.op=true/\a<b):=fun a b x y hx hy hab hM hm hc hf=>by
    have k1:=yh h2 a _ (hz a x hx)
    simp only [Bool.or_eq_true,Bool.not_eq_true'] at k1
    rcases k1 with (k1|k1)|k1
    ·rw [hc] at k1;cases k1
    ·rw [hf] at k1;cases k1
    ·have k2:=yh k1 b _ (hz b y hy)
     simp only [Bool.or_eq_true,Bool.and_eq_true] at k2
     rcases k2 with ((k2|k2)|k2)|k2
     ·exact .inl (aC k2)
     ·exact absurd (aC k2) hab
     ·rw [hM,hm] at k2;exact absurd k2 hb
     ·exact .inr ⟨k2.1,by simpa [Nat.blt_eq] using k2.2⟩
   have Si:∀ (x y:Rs),Fj x y=true->(x.c=3->y.c=0)/\(y.c=3->x.c=0):=fun x y ha=>by
    unfold Fj at ha
    simp only [Bool.and_eq_true,Bool.or_eq_true] at ha
    have h4:=ha
    refine ⟨fun hx=> ?_,fun hy=> ?_⟩
    ·rcases h4 with h4|h4|h4|h4|h4
     ·rw [aC h4] at hx;cases hx
     ·exact aC h4
     ·rw [hx] at h4;exact absurd h4.1 (by decide)
     ·rw [hx] at h4;exact absurd h4.1 (by decide)
     ·rw [hx] at h4;exact absurd h4.2 (by decide)
    ·rcases h4 with h4|h4|h4|h4|h4
     ·exact aC h4
     ·rw [aC h4] at hy;cases hy
     ·rw [hy] at h4;exact absurd h4.2 (by decide)
     ·rw [hy] at h4;exact absurd h4.2 (by decide)
     ·rw [hy] at h4;exact absurd h4.1 (by decide)
   have mk2:∀ (y:SOper),p9 y.op=true->(dF (aliases PV sl []) PV y).c=2:=fun y hm=>by
    cases ho:y.op<;>rw [ho] at hm<;>first|(cases hm;done)|skip
    unfold dF;rw [ho];rfl
   refine ⟨hap,fun hbx=> ?_,fun hby=> ?_⟩
   ·unfold vW at hbx
    simp only [Bool.or_eq_true,Bool.and_eq_true,Bool.not_eq_true'] at hbx
    rcases hbx with hbx|hbx
    ·rcases hac with hac|hac
     ·exact .inl ((Si _ _ hac).1 (aC hbx))
     ·exact .inr hac
    ·exact (bF i j x y hx hy (by omega) (by omega) (by omega) (aC hbx.1) hbx.2).imp id And.left
   ·unfold vW at hby
    simp only [Bool.or_eq_true,Bool.and_eq_true,Bool.not_eq_true'] at hby
    rcases hby with hby|hby
    ·rcases hac with hac|hac
     ·exact (Si _ _ hac).2 (aC hby)
     ·have:=mk2 y hac
      rw [aC hby] at this;cases this
    ·rcases bF j i y x hy hx (by omega) (by omega) (by omega) (aC hby.1) hby.2 with h|⟨_,h⟩
     ·exact h
     ·omega
theorem Sj {PV FL:List Nat} {sl:List SOper} (h:iL PV FL sl=true):(∀ (j:Nat) o,sl[j]? =some o->∀ e ∈ o.after,e<j)/\
 ∀ (i j:Nat) x y,i<j->sl[i]? =some x->sl[j]? =some y->((ja [] (sl.map (·.after))).getD j 0).testBit i=true\/F7 FL x y (dF (aliases PV sl []) PV x) (dF (aliases PV sl []) PV y):=amV h
theorem amY {PV FL:List Nat} {sl:List SOper} (h:iL PV FL sl=true) {D:Nat->Bool} (hD:Closed sl D) {j p:Nat} {o:SOper} (ho:sl[j]? =some o) (hn:ow o.op=true) (hd:o.dst=some p) (hp:mem PV p=true) (hj:D j=false):
  ∀ (i:Nat) x,i≠j->sl[i]? =some x->ni (aliases PV sl []) PV x.op=some p->D i=false:=fun i x hij hx hv=>by
 have hbef:uI (sl.map (·.after)) (ja [] (sl.map (·.after))):=yR _ _ [] (by simp) (by simp) (fun j m h=>by simp at h)
 have uJ:∀ (i:Nat) (af:List Nat),D i=true->(sl.map (·.after))[i]? =some af->∀ e ∈ af,D e=true:=fun i af hi cK=>by
  rw [List.getElem?_map] at cK
  cases hs:sl[i]? with
  |none=>rw [hs] at cK;simp at cK
  |some x=>rw [hs] at cK;simp at cK;subst cK;exact hD i x hi hs
 unfold iL at h
 simp only [Bool.and_eq_true] at h
 obtain ⟨_,_,h3⟩:=h
 unfold Bu at h3
 have k1:=yh h3 j o ho
 simp only [Bool.or_eq_true,Bool.not_eq_true',hn,hd] at k1
 rcases k1 with k1|k1
 ·cases k1
 ·rw [hp] at k1
  rcases k1 with k1|k1
  ·cases k1
  ·have k2:=yh k1 i x hx
   simp only [Bool.or_eq_true,Bool.not_eq_true',Bool.and_eq_true] at k2
   rcases k2 with k2|k2|k2
   ·exact absurd (aC k2) hij
   ·rw [hv] at k2
    have k2:Nat.beq p p=false:=k2
    rw [Nat.beq_refl] at k2;cases k2
   ·cases iB:D i with
    |false=>rfl
    |true=>
     have hb:=k2.2
     rcases Nat.lt_or_ge i (ja [] (sl.map (·.after))).length with h1|h1
     ·have:=hbef i _ (by rw [List.getD_eq_getElem?_getD,List.getElem?_eq_getElem h1];rfl) D uJ (fun af cK=>uJ i af iB cK) j hb
      rw [hj] at this;cases this
     ·rw [List.getD_eq_getElem?_getD,List.getElem?_eq_none h1] at hb
      simp at hb
theorem amZ {PV FL:List Nat} {sl:List SOper} (h:iL PV FL sl=true) {D:Nat->Bool} (hD:Closed sl D) {j:Nat} {o:SOper} (ho:sl[j]? =some o) (hj:D j=false) (hjr:∀ e ∈ o.after,D e=true):
  (∀ i x,i<j->sl[i]? =some x->D i=true\/F7 FL x o (dF (aliases PV sl []) PV x) (dF (aliases PV sl []) PV o))/\
  ∀ i x,j<i->sl[i]? =some x->D i=true->F7 FL o x (dF (aliases PV sl []) PV o) (dF (aliases PV sl []) PV x):=by
 obtain ⟨_,hp⟩:=Sj h
 have hbef:uI (sl.map (·.after)) (ja [] (sl.map (·.after))):=yR _ _ [] (by simp) (by simp) (fun j m h=>by simp at h)
 have uJ:∀ (i:Nat) (af:List Nat),D i=true->(sl.map (·.after))[i]? =some af->∀ e ∈ af,D e=true:=fun i af hi cK=>by
  rw [List.getElem?_map] at cK
  cases hs:sl[i]? with
  |none=>rw [hs] at cK;simp at cK
  |some x=>rw [hs] at cK;simp at cK;subst cK;exact hD i x hi hs
 have hbit:∀ (i i':Nat) (x:SOper),sl[i]? =some x->(∀ e ∈ x.after,D e=true)->((ja [] (sl.map (·.after))).getD i 0).testBit i'=true->D i'=true:=fun i i' x hx hxe hb=>by
  rcases Nat.lt_or_ge i (ja [] (sl.map (·.after))).length with h1|h1
  ·refine hbef i _ (by rw [List.getD_eq_getElem?_getD,List.getElem?_eq_getElem h1];rfl) D uJ (fun af cK=> ?_) i' hb
   rw [List.getElem?_map,hx] at cK
   simp at cK
   subst cK
   exact hxe
  ·rw [List.getD_eq_getElem?_getD,List.getElem?_eq_none h1] at hb
   simp at hb
 refine ⟨fun i x hi hx=> ?_,fun i x hi hx hd=> ?_⟩
 ·rcases hp i j x o hi hx ho with h|h
  ·exact .inl (hbit j i o ho hjr h)
  ·exact .inr h
 ·rcases hp j i o x hi ho hx with h|h
  ·have:=hbit i j x hx (hD i x hd hx) h
   rw [hj] at this;cases this
  ·exact h
end
end Go.M
