/-
  Part of a proof: lemmas and definitions of this work.
  No condition.
-/
import Derived.Test.YtpfhpakpcjfopaaGreatI08
import Derived.WalkKit
import Derived.Orders
import Derived.Test.YtpfhpakpcjfopaaGreatI01
set_option linter.all false
set_option maxRecDepth 100000
set_option maxHeartbeats 8000000
namespace Go.M
open Go
noncomputable section
variable [aY]
section
variable {P:Program} {fl:Nat} {o:Oper} {h:Hp}
theorem Rk {ty:TypeId} {a:Operand} {c:Call} {s:ByteArray} {ev:Operand->Value} {w:World} (h1:P.underlying ty=some .string)
  (hc:c.callee= .builtin .len) (h2:c.argTypes[0]? =some ty) (h3:c.args[0]? =some a) (ho:o.op= .call c) (hx:ev a= .string s):
  (execOp ev o).run P w= .ok (.value (.int .i64 s.size)) w:=by
 have hv:(Builtin.len_ c.argTypes o.type (c.args.map ev)).run P w= .ok (.int .i64 s.size) w:=by
  simp [Builtin.len_,h2,h3,hx,run_underlying h1,goInt]
 simp only [execOp,ho,resolve,hc,invoke,builtin,Sem.run_bind,Sem.run_pure,Result.andThen_ok,hv]
theorem al8 {ty:TypeId} {a:Operand} {c:Call} {x:X} (h1:P.underlying ty=some .string)
  (hc:c.callee= .builtin .len) (h2:c.argTypes[0]? =some ty) (h3:c.args[0]? =some a) (ho:o.op= .call c):eF P o [(a,x)] h (QU x):=fun k r e=>by
 rcases aF (show ah (rC x) (iU (Kb x) h k) _=some r from e) with ⟨_,e1⟩|⟨_,e1⟩
 ·obtain ⟨v,q,e2⟩:=tL e1
  refine ⟨v,_,e2,fun fl=> .fG,fun hf M fl w0 V w ev hm hd _=> ?_⟩
  obtain ⟨s,g1,g2⟩:Kb x v:=hf _ (List.mem_cons_self ..)
  have hv:ev a= .string s:=jk g1 (hd (a,x) (by simp))
  rw [Rk h1 hc h2 h3 ho hv]
  exact ⟨_,w,V,.inl rfl,M.fG hm,xK g2 rfl,.refl ..⟩
 ·obtain ⟨u,hx,e2⟩:=rG e1
  cases u with
  |string s=>
   have e3:om (.int .i64 (Int.ofNat s.data.toList.length)) (fun x=>k x h)=some r:=e2
   rw [xL] at e3
   refine ⟨_,h,e3,fun fl=> .refl _ _,fun _ M fl w0 V w ev hm hd _=> ?_⟩
   have hv:ev a= .string s:=jk hx (hd (a,x) (by simp))
   rw [Rk h1 hc h2 h3 ho hv,show ((s.size:Nat):Int)=Int.ofNat s.data.toList.length from rfl]
   exact .pure hm (mR rfl)
  |_=>cases e2
theorem Rm {V:Vw}:∀ {rows:List X} {l:List UInt8} {vals:List Value},zW rows=some l->vals.length=rows.length->(∀ q row,rows[q]? =some row->∀ j c,row.l[j]? =some c->∃ u,vals[q*1+j]? =some u/\den V c u)->
  ∃ ns:List Int,vals=ns.map (Value.int .u8)/\l=ns.map fun n=>n.toNat.toUInt8
 |[],l,vals,e,hl,_=>by
  simp only [zW,Option.some.injEq] at e;subst e
  exact ⟨[],List.eq_nil_of_length_eq_zero (by simpa using hl),rfl⟩
 |x::rows,l,[],e,hl,_=>by simp at hl
 |x::rows,l,v::vals,e,hl,hr=>by
  unfold zW at e
  split at e
  ·rename_i c r hc hb
   cases ht:Nat.beq (Nat.land c.n 511) 4 with
   |false=>rw [ht] at e;cases e
   |true=>
    rw [ht] at e
    simp only [cond_true,Option.some.injEq] at e
    obtain ⟨ns,g1,g2⟩:=Rm hb (by simpa using hl) (fun q row hq j c hj=>by
     obtain ⟨u,k1,k2⟩:=hr (q+1) row (by simpa using hq) j c hj
     exact ⟨u,by simpa [Nat.add_right_comm] using k1,k2⟩)
    obtain ⟨u,k1,k2⟩:=hr 0 x rfl 0 c (by rw [hc];rfl)
    simp only [Nat.zero_mul,Nat.add_zero,List.getElem?_cons_zero,Option.some.injEq] at k1
    subst k1
    have hn:c.n % 512=4:=by
     have:=aC ht
     rw [show Nat.land c.n 511=c.n % 512 from Nat.and_two_pow_sub_one_eq_mod c.n 9] at this
     exact this
    have hd:=(oh (x:=c) (by omega)).1 k2
    rw [show c.n / 32 % 16=0 by omega] at hd
    refine ⟨Int.ofNat (c.n / 512)::ns,?_,?_⟩
    ·rw [List.map_cons,<-g1,hd];rfl
    ·rw [List.map_cons,<-g2,<-e]
     congr 1
     rw [shr]
     rfl
  ·cases e
theorem al9 {src dst el:TypeId} {a:Operand} {x:X} (h1:P.underlying src=some (.slice el)) (h2:P.underlying el=some (.int .u8)) (h3:P.underlying dst=some .string)
  (ho:o.op= .convert src dst a):ig P fl o [(a,x)] h (QV x):=fun k r e=>by
 obtain ⟨rows,e1,hr⟩:=Cv (show pR 1 x h _=some r from e)
 cases hb:zW rows with
 |none=>rw [hb] at e1;cases e1
 |some l=>
  rw [hb] at e1
  have e2:k ⟨12,[],.string ⟨l.toArray⟩⟩ h=some r:=e1
  refine ⟨_,h,e2,.refl _ _,fun _ w0 V w ev hm hd _=> ?_⟩
  obtain ⟨vals,ad,cap,g1,g2,g3,g4,g5,g6⟩:=hr w0 V w _ hm (hd (a,x) (by simp))
  have g1:ev a= .slice ad rows.length cap:=g1
  rw [Nat.mul_one] at g2
  obtain ⟨ns,n1,n2⟩:=Rm (V:=V) hb g2 (fun q row hq j c hj=>by
   obtain ⟨u,k1,_,k2⟩:=(g6 q row hq).2.2 j c hj
   exact ⟨u,by simpa using k1,k2⟩)
  have hrun:(convert src dst (ev a)).run P w= .ok (.string ⟨l.toArray⟩) w:=by
   rw [g1,run_convert_bytes_string w src dst el ad rows.length cap h1 h2 h3]
   cases ad with
   |none=>
    have h0:=g3 rfl
    subst h0
    have hns:ns=[]:=by cases ns with|nil=>rfl|cons _ _=>rw [n1] at g2;simp at g2
    subst hns
    rw [n2]
    simp [Conv.bytesToString]
    rfl
   |some A=>
    have hl':=run_loadCells_list (P:=P) w A vals (fun j v hj=>g4 A rfl j v hj)
    rw [g2] at hl'
    rw [n1] at hl'
    rw [run_bytesToString w A rows.length cap ns hl',Go.Eng.foldl_push,n2]
    simp
  have KO:(execOp ev o).run P w= .ok (.value (.string ⟨l.toArray⟩)) w:=by
   simp only [execOp,ho,Sem.run_bind,hrun,Result.andThen_ok,Sem.run_pure]
  rw [KO]
  exact .pure hm ((jY (x:=⟨12,[],.string ⟨l.toArray⟩⟩) (.inl rfl)).2 ⟨rfl,rfl⟩)
end
end
end Go.M
namespace Go.M
open Go
open Go.Eng (SOp SOper SCode)
noncomputable section
variable [aY]
section
variable {α:Type}
theorem tT (a b:Nat):Nat.beq a b=decide (a=b):=by
 by_cases h:a=b
 ·subst h;simp [Nat.beq_refl]
 ·rw [decide_eq_false h];cases e:Nat.beq a b
  ·rfl
  ·exact absurd (aC e) h
theorem fq {β:Type} (b:Bool) (x y:β):cnd b x y=if b=true then x else y:=by cases b<;>rfl
theorem kW (t:Nat) (d:α) (L:List (Nat×α)) (k:Nat):lk ((t,d)::L) k=if t=k then some d else lk L k:=by
 show cnd (Nat.beq t k) (some d) (lk L k)=_
 rw [fq,tT];simp
theorem vK:∀ (L:List (Nat×α)) (t k:Nat),lk (jl L t) k=if t=k then none else lk L k
 |[],t,k=>by simp [jl,lk]
 |(j,d)::L,t,k=>by
  show lk (cnd (Nat.beq j t) (jl L t) ((j,d)::jl L t)) k=_
  rw [fq,tT]
  by_cases e:j=t
  ·subst e
   simp only [decide_true,if_true,vK L j k,kW]
   split<;>rfl
  ·simp only [e,decide_false,Bool.false_eq_true,if_false,kW,vK L t k]
   by_cases e2:j=k
   ·subst e2;simp [Ne.symm e]
   ·simp [e2]
theorem mem_iff:∀ (G:List Nat) (k:Nat),mem G k=true↔k ∈ G
 |[],k=>by simp [mem]
 |j::G,k=>by
  show cnd (Nat.beq j k) true (mem G k)=true↔_
  rw [fq,tT]
  by_cases e:j=k
  ·subst e;simp
  ·simp [e,Ne.symm e,mem_iff G k]
theorem CS:∀ {G:List Nat} {k:Nat},mem G k=false->ix G k=none
 |[],k,h=>rfl
 |j::G,k,h=>by
  have h':cnd (Nat.beq j k) true (mem G k)=false:=h
  show cnd (Nat.beq j k) (some 0) (@Option.rec Nat (fun _=>Option Nat) none (fun i=>some (Nat.succ i)) (ix G k))=none
  rw [fq] at h' ⊢
  by_cases e:Nat.beq j k=true
  ·rw [if_pos e] at h';cases h'
  ·rw [if_neg e] at h' ⊢;rw [CS h']
theorem vL:∀ {G:List Nat} {k j:Nat},ix G k=some j->G[j]? =some k
 |[],k,j,h=>by simp [ix] at h
 |i::G,k,j,h=>by
  have h':cnd (Nat.beq i k) (some 0) (@Option.rec Nat (fun _=>Option Nat) none (fun i=>some (Nat.succ i)) (ix G k))=some j:=h
  rw [fq,tT] at h'
  by_cases e:i=k
  ·subst e;simp at h';subst h';rfl
  ·simp only [e,decide_false,Bool.false_eq_true,if_false] at h'
   cases e2:ix G k with
   |none=>rw [e2] at h';cases h'
   |some m=>rw [e2] at h';simp only [Option.some.injEq] at h';subst h';show G[m]? =some k;exact vL e2
end
def vM (L:List (Nat×AL)):Prop:=L.Pairwise fun a b=>a.1≠b.1
theorem CU {α:Type}:∀ {L:List (Nat×α)} {k:Nat} {a:α},lk L k=some a->(k,a) ∈ L
 |[],k,a,h=>by simp [lk] at h
 |(j,d)::L,k,a,h=>by
  rw [kW] at h
  by_cases e:j=k
  ·subst e;simp at h;subst h;simp
  ·rw [if_neg e] at h;exact List.mem_cons_of_mem _ (CU h)
theorem Rn:∀ {L:List (Nat×AL)} {k:Nat} {a:AL},vM L->(k,a) ∈ L->lk L k=some a
 |[],k,a,_,h=>by simp at h
 |(j,d)::L,k,a,hn,h=>by
  rw [vM,List.pairwise_cons] at hn
  rw [kW]
  rcases List.mem_cons.1 h with e|e
  ·cases e;simp
  ·rw [if_neg (hn.1 _ e),Rn hn.2 e]
theorem Ad:∀ {L:List (Nat×AL)} {t:Nat} {q:Nat×AL},q ∈ jm L t↔q ∈ L/\q.1≠t/\mY q.2.gd t=false
 |[],t,q=>by simp [jm]
 |p::L,t,q=>by
  show q ∈ cnd (Nat.beq p.1 t) (jm L t) (cnd (mY p.2.gd t) (jm L t) (p::jm L t))↔_
  rw [fq,fq,tT]
  by_cases e:p.1=t
  ·simp only [e,decide_true,if_true,Ad (L:=L),List.mem_cons]
   constructor
   ·rintro ⟨h1,h2⟩;exact ⟨.inr h1,h2⟩
   ·rintro ⟨h1|h1,h2,h3⟩
    ·subst h1;exact absurd e h2
    ·exact ⟨h1,h2,h3⟩
  ·simp only [e,decide_false,Bool.false_eq_true,if_false]
   by_cases e2:mY p.2.gd t=true
   ·simp only [e2,if_true,Ad (L:=L),List.mem_cons]
    constructor
    ·rintro ⟨h1,h2⟩;exact ⟨.inr h1,h2⟩
    ·rintro ⟨h1|h1,h2,h3⟩
     ·subst h1;rw [e2] at h3;cases h3
     ·exact ⟨h1,h2,h3⟩
   ·simp only [e2,if_false,List.mem_cons,Ad (L:=L),Bool.false_eq_true]
    constructor
    ·rintro (h1|⟨h1,h2⟩)
     ·subst h1;exact ⟨.inl rfl,e,by simpa using e2⟩
     ·exact ⟨.inr h1,h2⟩
    ·rintro ⟨h1|h1,h2⟩
     ·exact .inl h1
     ·exact .inr ⟨h1,h2⟩
theorem CV:∀ {L:List (Nat×AL)} {t:Nat},vM L->vM (jm L t)
 |[],t,h=>h
 |p::L,t,h=>by
  rw [vM,List.pairwise_cons] at h
  show vM (cnd (Nat.beq p.1 t) (jm L t) (cnd (mY p.2.gd t) (jm L t) (p::jm L t)))
  have ih:=CV (t:=t) h.2
  cases Nat.beq p.1 t
  ·cases mY p.2.gd t
   ·exact List.pairwise_cons.2 ⟨fun q hq=>h.1 q (Ad.1 hq).1,ih⟩
   ·exact ih
  ·exact ih
theorem Fy {L:List (Nat×AL)} {t k:Nat} {a:AL} (hn:vM L) (h:lk (jm L t) k=some a):lk L k=some a/\k≠t/\mY a.gd t=false:=by
 have h1:=Ad.1 (CU h)
 exact ⟨Rn hn h1.1,h1.2.1,h1.2.2⟩
theorem Ro:∀ {L:List (Nat×AL)} {p:Nat},zX L p=false->∀ q ∈ L,q.2.p≠p
 |[],p,_,q,hq=>by simp at hq
 |a::L,p,h,q,hq=>by
  have h':cnd (Nat.beq a.2.p p) true (zX L p)=false:=h
  rw [fq,tT] at h'
  by_cases e:a.2.p=p
  ·simp [e] at h'
  ·simp only [e,decide_false,Bool.false_eq_true,if_false] at h'
   rcases List.mem_cons.1 hq with rfl|hq
   ·exact e
   ·exact Ro h' q hq
inductive SV where
 |val (x:X)
 |ptr (p off:Nat) (c:Bool)
structure dP where
 T:Nat->Option SV
 C:Nat->Option X
abbrev vD (en:En) (fr:FX) (l:Loc) (d:D):X:=(ko en.n d).g fr l
def aW (fr:FX) (j:Nat):X:=(eP.get j).g fr
def vT (cx:Cx) (en:En) (fr:FX) (l:Loc) (k:Nat):Option X:=(dT cx en k).map (vD en fr l)
def iw (cx:Cx) (en:En) (fr:FX) (l:Loc):Option (Nat×Bool)->Bool
 |none=>true
 |some (t,b)=>match vT cx en fr l t with
  |some x=>decide (x.n=if b then 33 else 1)
  |none=>false
def bf (cx:Cx) (en:En) (fr:FX) (l:Loc) (p:Nat):Option X:=match lk en.C p with
 |some d=>some (vD en fr l d)
 |none=>if mem cx.PV p=true then match ix cx.G p with
   |some j=>if (aW fr j).n=14 then none else some (aW fr j)
   |none=>none
  else none
def bU (cx:Cx) (en:En) (fr:FX) (l:Loc) (k:Nat):Option SV:=match lk en.T k with
 |some d=>some (.val (vD en fr l d))
 |none=>if mem cx.PV k=true then (match bf cx en fr l k with
   |some _=>some (.ptr k 0 true)
   |none=>none)
  else match lk en.A k with
   |some a=>some (.ptr a.p a.off (iw cx en fr l a.gd))
   |none=>match ix cx.G k with
    |some j=>some (.val (aW fr j))
    |none=>none
def aX (cx:Cx) (en:En) (fr:FX) (l:Loc):dP:=⟨bU cx en fr l,bf cx en fr l⟩
def dP.le (s s':dP):Prop:=(∀ k v,s.T k=some v->s'.T k=some v)/\∀ p x,s.C p=some x->s'.C p=some x
theorem dP.le.refl (s:dP):s.le s:=⟨fun _ _ h=>h,fun _ _ h=>h⟩
theorem dP.le.trans {s s' s'':dP} (a:s.le s') (b:s'.le s''):s.le s'':=⟨fun k v h=>b.1 k v (a.1 k v h),fun p x h=>b.2 p x (a.2 p x h)⟩
def dP.upd (s:dP) (dst:Option Nat) (sv:SV) (var:Option (Nat×X)):dP:=
 ⟨fun k=>if dst=some k then some sv else s.T k,fun p=>match var with
  |some (q,x)=>if q=p then some x else s.C p
  |none=>s.C p⟩
def nu (n:Nat):D->Prop
 | .loc p=>p<n
 |_=>True
structure Wf (cx:Cx) (en:En) (l:Loc):Prop where
 n:en.n=l.length
 T:∀ k d,lk en.T k=some d->nu en.n d/\mem cx.PV k=false/\lk en.A k=none
 C:∀ p d,lk en.C p=some d->nu en.n d/\mem cx.PV p=true
 A:∀ k a,lk en.A k=some a->mem cx.PV k=false/\mem cx.G k=false/\mem cx.PV a.p=true
 nd:vM en.A
theorem Wf.zero (cx:Cx):Wf cx en0 []:=⟨rfl,fun k d h=>by simp [en0,lk] at h,fun k d h=>by simp [en0,lk] at h,fun k d h=>by simp [en0,lk] at h,List.Pairwise.nil⟩
theorem KP {n:Nat} {d:D} (fr:FX) (x:X) (l:Loc) (h:nu n d):(ko (n+1) d).g fr (x::l)=(ko n d).g fr l:=by
 cases d with
 |loc p=>
  have hp:p<n:=h
  show (EW ((n+1) - 1 - p)).g fr (x::l)=(EW (n - 1 - p)).g fr l
  rw [show (n+1) - 1 - p=(n - 1 - p)+1 from by omega]
  rfl
 |slot j=>rfl
 |con y=>cases y;rfl
theorem KQ (n:Nat) (fr:FX) (x:X) (l:Loc):(ko (n+1) (.loc n)).g fr (x::l)=x:=by
 show (EW ((n+1) - 1 - n)).g fr (x::l)=x
 rw [show (n+1) - 1 - n=0 from by omega]
 rfl
theorem Fz (n:Nat) (fr:FX) (l:Loc) (x:X):(ko n (.con x)).g fr l=x:=by cases x;rfl
structure oz (cx:Cx) (fr:FX) (en:En) (l:Loc) (en':En) (l':Loc) (t:Option Nat) (p:Option Nat):Prop where
 T:∀ k,t≠some k->lk en'.T k=lk en.T k
 A:∀ k a,t≠some k->lk en'.A k=some a->lk en.A k=some a/\∀ j,t=some j->mY a.gd j=false
 C:∀ q,p≠some q->lk en'.C q=lk en.C q
 ac:∀ d,nu en.n d->vD en' fr l' d=vD en fr l d
theorem oz.bf {cx:Cx} {fr:FX} {en en':En} {l l':Loc} {t p:Option Nat} (hw:Wf cx en l) (h:oz cx fr en l en' l' t p) (q:Nat) (hq:p≠some q):bf cx en' fr l' q=bf cx en fr l q:=by
 unfold Go.M.bf
 rw [h.C q hq]
 cases e:lk en.C q with
 |some d=>simp only;rw [h.ac d (hw.C q d e).1]
 |none=>rfl
theorem oz.vT {cx:Cx} {fr:FX} {en en':En} {l l':Loc} {t p:Option Nat} (hw:Wf cx en l) (hw':Wf cx en' l') (h:oz cx fr en l en' l' t p) (k:Nat) (hk:t≠some k):vT cx en' fr l' k=vT cx en fr l k:=by
 unfold Go.M.vT dT
 rw [h.T k hk]
 cases e:lk en.T k with
 |some d=>simp only [Option.map_some];rw [h.ac d (hw.T k d e).1]
 |none=>
  simp only
  cases hp:mem cx.PV k with
  |true=>rfl
  |false=>
   show Option.map _ (cnd (@Option.rec AL (fun _=>Bool) false (fun _=>true) (lk en'.A k)) none _)=Option.map _ (cnd (@Option.rec AL (fun _=>Bool) false (fun _=>true) (lk en.A k)) none _)
   have key:∀ (o:Option Nat),mem cx.G k=false->(@Option.rec Nat (fun _=>Option D) none (fun j=>some (.slot j)) (ix cx.G k))=none:=fun o hg=>by rw [CS hg]
   cases e1:lk en.A k with
   |some a=>
    have hg:=(hw.A k a e1).2.1
    cases e2:lk en'.A k with
    |some a'=>rfl
    |none=>simp only;rw [CS hg];rfl
   |none=>
    cases e2:lk en'.A k with
    |some a'=>rw [(h.A k a' hk e2).1] at e1;cases e1
    |none=>
     simp only
     cases ix cx.G k with
     |none=>rfl
     |some j=>rfl
theorem ama {g:Nat} {b:Bool} {t:Nat}:mY (some (g,b)) t=false↔g≠t:=by
 show Nat.beq g t=false↔_
 rw [tT];simp
theorem oz.bU {cx:Cx} {fr:FX} {en en':En} {l l':Loc} {t p:Option Nat} (hw:Wf cx en l) (hw':Wf cx en' l') (h:oz cx fr en l en' l' t p)
  (hp:∀ q x,p=some q->t≠some q->Go.M.bf cx en' fr l' q=some x->∃ y,Go.M.bf cx en fr l q=some y)
  (k:Nat) (hk:t≠some k) (v:SV) (hv:Go.M.bU cx en' fr l' k=some v):Go.M.bU cx en fr l k=some v:=by
 unfold Go.M.bU at hv ⊢
 rw [h.T k hk] at hv
 cases e:lk en.T k with
 |some d=>rw [e] at hv;simp only at hv ⊢;rw [h.ac d (hw.T k d e).1] at hv;exact hv
 |none=>
  rw [e] at hv
  simp only at hv ⊢
  by_cases hpv:mem cx.PV k=true
  ·rw [if_pos hpv] at hv ⊢
   by_cases e2:p=some k
   ·cases e3:Go.M.bf cx en' fr l' k with
    |none=>rw [e3] at hv;cases hv
    |some x=>
     obtain ⟨y,hy⟩:=hp k x e2 hk e3
     rw [e3] at hv;rw [hy];exact hv
   ·rw [h.bf hw k e2] at hv;exact hv
  ·rw [if_neg hpv] at hv ⊢
   cases e1:lk en'.A k with
   |some a=>
    obtain ⟨h1,h2⟩:=h.A k a hk e1
    rw [e1] at hv;rw [h1]
    simp only at hv ⊢
    have:iw cx en' fr l' a.gd=iw cx en fr l a.gd:=by
     cases hg:a.gd with
     |none=>rfl
     |some q=>
      obtain ⟨g,b⟩:=q
      have hgt:t≠some g:=fun e=>by
       have:=h2 g e
       rw [hg,ama] at this
       exact this rfl
      show (match Go.M.vT cx en' fr l' g with
       |some x=>decide (x.n=if b then 33 else 1)
       |none=>false)=(match Go.M.vT cx en fr l g with
       |some x=>decide (x.n=if b then 33 else 1)
       |none=>false)
      rw [h.vT hw hw' g hgt]
    rw [<-this];exact hv
   |none=>
    rw [e1] at hv
    simp only at hv
    cases e2:lk en.A k with
    |some a=>
     rw [CS (hw.A k a e2).2.1] at hv;cases hv
    |none=>exact hv
end
end Go.M
namespace Go.M
open Go
open Go.Eng (SOp SOper SCode)
noncomputable section
variable [aY]
section
variable {cx:Cx} {en:En} {fr:FX} {l:Loc}
theorem nu.mono {n m:Nat} {d:D} (h:n<=m) (hd:nu n d):nu m d:=by
 cases d with
 |loc p=>exact Nat.lt_of_lt_of_le hd h
 |slot j=>trivial
 |con x=>trivial
theorem dP.amb {s s':dP} (h:s.le s') (dst:Option Nat) (sv:SV) (var:Option (Nat×X)):(s.upd dst sv var).le (s'.upd dst sv var):=by
 refine ⟨fun k v hk=> ?_,fun p x hp=> ?_⟩
 ·show (if dst=some k then some sv else s'.T k)=some v
  have hk':(if dst=some k then some sv else s.T k)=some v:=hk
  split at hk'
  ·rename_i e;rw [if_pos e];exact hk'
  ·rename_i e;rw [if_neg e];exact h.1 k v hk'
 ·cases var with
  |none=>exact h.2 p x hp
  |some q=>
   obtain ⟨q,y⟩:=q
   show (if q=p then some y else s'.C p)=some x
   have hp':(if q=p then some y else s.C p)=some x:=hp
   split at hp'
   ·rename_i e;rw [if_pos e];exact hp'
   ·rename_i e;rw [if_neg e];exact h.2 p x hp'
theorem KR {en':En} {l':Loc} {t:Nat} (hw:Wf cx en l) (hw':Wf cx en' l') (h:oz cx fr en l en' l' (some t) none) {sv:SV} (ht:∀ v,bU cx en' fr l' t=some v->v=sv):
  (aX cx en' fr l').le ((aX cx en fr l).upd (some t) sv none):=by
 refine ⟨fun k v hk=> ?_,fun p x hp=> ?_⟩
 ·show (if some t=some k then some sv else bU cx en fr l k)=some v
  by_cases e:t=k
  ·subst e;rw [if_pos rfl,ht v hk]
  ·rw [if_neg (by simpa using e)]
   exact h.bU hw hw' (fun q x hq=>by cases hq) k (by simpa using e) v hk
 ·show bf cx en fr l p=some x
  rw [<-h.bf hw p (by simp)];exact hp
theorem amc {t:Nat} (hw:Wf cx en l) (ht:mem cx.PV t=false) (x:X):Wf cx (pY en t) (x::l)/\(aX cx (pY en t) fr (x::l)).le ((aX cx en fr l).upd (some t) (.val x) none):=by
 have hT:∀ k,lk (pY en t).T k=if t=k then some (.loc en.n) else lk en.T k:=fun k=>by
  show lk ((t,D.loc en.n)::jl en.T t) k=_
  rw [kW,vK];split<;>rfl
 have hA:∀ k a,lk (pY en t).A k=some a->lk en.A k=some a/\k≠t/\mY a.gd t=false:=fun k a h=>Fy hw.nd h
 have hW:Wf cx (pY en t) (x::l):=by
  refine ⟨by show en.n+1=_;rw [hw.n];rfl,fun k d h=> ?_,fun p d h=>⟨(hw.C p d h).1.mono (Nat.le_succ _),(hw.C p d h).2⟩,fun k a h=>hw.A k a (hA k a h).1,CV hw.nd⟩
  rw [hT] at h
  have hA':∀ k,lk en.A k=none->lk (pY en t).A k=none:=fun k h=>by
   cases e:lk (pY en t).A k with
   |none=>rfl
   |some a=>rw [(hA k a e).1] at h;cases h
  split at h
  ·rename_i e;subst e
   cases h
   refine ⟨Nat.lt_succ_self _,ht,?_⟩
   cases e:lk (pY en t).A t with
   |none=>rfl
   |some a=>exact absurd rfl (hA t a e).2.1
  ·obtain ⟨h1,h2,h3⟩:=hw.T k d h
   exact ⟨h1.mono (Nat.le_succ _),h2,hA' k h3⟩
 refine ⟨hW,KR hw hW ⟨fun k hk=> ?_,fun k a hk h=>⟨(hA k a h).1,fun j hj=>by cases hj;exact (hA k a h).2.2⟩,fun q _=>rfl,fun d hd=>KP fr x l hd⟩ fun v hv=> ?_⟩
 ·rw [hT,if_neg (fun e=>hk (by rw [e]))]
 ·unfold bU at hv
  rw [hT,if_pos rfl] at hv
  simp only [Option.some.injEq] at hv
  rw [<-hv];show SV.val _=_
  rw [show vD (pY en t) fr (x::l) (.loc en.n)=x from KQ en.n fr x l]
theorem amd {t:Nat} {d:D} (hw:Wf cx en l) (ht:mem cx.PV t=false) (hd:nu en.n d):Wf cx (mZ en t d) l/\(aX cx (mZ en t d) fr l).le ((aX cx en fr l).upd (some t) (.val (vD en fr l d)) none):=by
 have hT:∀ k,lk (mZ en t d).T k=if t=k then some d else lk en.T k:=fun k=>by
  show lk ((t,d)::jl en.T t) k=_
  rw [kW,vK];split<;>rfl
 have hA:∀ k a,lk (mZ en t d).A k=some a->lk en.A k=some a/\k≠t/\mY a.gd t=false:=fun k a h=>Fy hw.nd h
 have hW:Wf cx (mZ en t d) l:=by
  refine ⟨hw.n,fun k d' h=> ?_,hw.C,fun k a h=>hw.A k a (hA k a h).1,CV hw.nd⟩
  rw [hT] at h
  have hA':∀ k,lk en.A k=none->lk (mZ en t d).A k=none:=fun k h=>by
   cases e:lk (mZ en t d).A k with
   |none=>rfl
   |some a=>rw [(hA k a e).1] at h;cases h
  split at h
  ·rename_i e;subst e
   cases h
   refine ⟨hd,ht,?_⟩
   cases e:lk (mZ en t d).A t with
   |none=>rfl
   |some a=>exact absurd rfl (hA t a e).2.1
  ·obtain ⟨h1,h2,h3⟩:=hw.T k d' h
   exact ⟨h1,h2,hA' k h3⟩
 refine ⟨hW,KR hw hW ⟨fun k hk=> ?_,fun k a hk h=>⟨(hA k a h).1,fun j hj=>by cases hj;exact (hA k a h).2.2⟩,fun q _=>rfl,fun d hd=>rfl⟩ fun v hv=> ?_⟩
 ·rw [hT,if_neg (fun e=>hk (by rw [e]))]
 ·unfold bU at hv
  rw [hT,if_pos rfl] at hv
  simp only [Option.some.injEq] at hv
  rw [<-hv];rfl
theorem ame {t:Nat} {a:AL} (hw:Wf cx en l) (ht:mem cx.PV t=false) (hg:mem cx.G t=false) (hp:mem cx.PV a.p=true):
  Wf cx (ng en t a) l/\∃ c,(aX cx (ng en t a) fr l).le ((aX cx en fr l).upd (some t) (.ptr a.p a.off c) none)/\(c=true->iw cx en fr l a.gd=true):=by
 have hT:∀ k,lk (ng en t a).T k=if t=k then none else lk en.T k:=fun k=>by
  show lk (jl en.T t) k=_
  rw [vK]
 have hA:∀ k b,lk (ng en t a).A k=some b->(k=t/\b=a)\/(lk en.A k=some b/\k≠t/\mY b.gd t=false):=fun k b h=>by
  have h':lk ((t,a)::jm en.A t) k=some b:=h
  rw [kW] at h'
  split at h'
  ·rename_i e;cases h';exact .inl ⟨e.symm,rfl⟩
  ·exact .inr (Fy hw.nd h')
 have hW:Wf cx (ng en t a) l:=by
  refine ⟨hw.n,fun k d h=> ?_,hw.C,fun k b h=> ?_,?_⟩
  ·rw [hT] at h
   split at h
   ·cases h
   ·rename_i e
    obtain ⟨h1,h2,h3⟩:=hw.T k d h
    refine ⟨h1,h2,?_⟩
    cases e2:lk (ng en t a).A k with
    |none=>rfl
    |some b=>
     rcases hA k b e2 with ⟨e3,_⟩|⟨e3,_⟩
     ·exact absurd e3.symm e
     ·rw [e3] at h3;cases h3
  ·rcases hA k b h with ⟨rfl,rfl⟩|⟨e3,_⟩
   ·exact ⟨ht,hg,hp⟩
   ·exact hw.A k b e3
  ·refine List.pairwise_cons.2 ⟨fun q hq=> ?_,CV hw.nd⟩
   exact fun e=>(Ad.1 hq).2.1 e.symm
 have hS:oz cx fr en l (ng en t a) l (some t) none:=by
  refine ⟨fun k hk=>by rw [hT,if_neg (fun e=>hk (by rw [e]))],fun k b hk h=> ?_,fun q _=>rfl,fun d hd=>rfl⟩
  rcases hA k b h with ⟨rfl,rfl⟩|⟨e3,_,e5⟩
  ·exact absurd rfl hk
  ·exact ⟨e3,fun j hj=>by cases hj;exact e5⟩
 refine ⟨hW,iw cx (ng en t a) fr l a.gd,KR hw hW hS fun v hv=> ?_,fun hc=> ?_⟩
 ·unfold bU at hv
  rw [hT,if_pos rfl,show lk (ng en t a).A t=some a from by show lk ((t,a)::jm en.A t) t=_;rw [kW,if_pos rfl]] at hv
  simp only [ht,Bool.false_eq_true,if_false,Option.some.injEq] at hv
  rw [<-hv]
 ·cases hgd:a.gd with
  |none=>rfl
  |some q=>
   obtain ⟨g,b⟩:=q
   rw [hgd] at hc
   by_cases e:g=t
   ·subst e
    exfalso
    have:vT cx (ng en g a) fr l g=none:=by
     unfold vT dT
     rw [hT,if_pos rfl,show lk (ng en g a).A g=some a from by show lk ((g,a)::jm en.A g) g=_;rw [kW,if_pos rfl]]
     show Option.map _ (cnd (mem cx.PV g) none none)=none
     rw [ht];rfl
    have h':(match vT cx (ng en g a) fr l g with
     |some x=>decide (x.n=if b then 33 else 1)
     |none=>false)=true:=hc
    rw [this] at h';cases h'
   ·have:=hS.vT hw hW g (by simpa using Ne.symm e)
    show (match vT cx en fr l g with
     |some x=>decide (x.n=if b then 33 else 1)
     |none=>false)=true
    rw [<-this];exact hc
theorem Rp {o:OL} {p:Nat} {d:D} {ih:En->FR} {h:Hp} {k:Kc} {r} (e:(vG cx o en p d ih).f fr l h k=some r) (hw:Wf cx en l) (hp:mem cx.PV p=true) (hd:nu en.n d):
  ∃ en',(ih en').f fr l h k=some r/\Wf cx en' l/\(aX cx en' fr l).le ((aX cx en fr l).upd (some p) (.ptr p 0 true) (some (p,vD en fr l d)))/\zX en.A p=false:=by
 unfold vG at e
 cases ha:zX en.A p with
 |true=>rw [ha] at e;cases e
 |false=>
  rw [ha] at e
  refine ⟨_,e,?_⟩
  generalize hen:(⟨jl en.T p,jm en.A p,(p,d)::jl en.C p,en.n⟩:En)=en'
  have hT:∀ k,lk en'.T k=if p=k then none else lk en.T k:=fun k=>by subst hen;show lk (jl en.T p) k=_;rw [vK]
  have hA:∀ k b,lk en'.A k=some b->lk en.A k=some b/\k≠p/\mY b.gd p=false:=fun k b h=>by subst hen;exact Fy hw.nd h
  have hC:∀ k,lk en'.C k=if p=k then some d else lk en.C k:=fun k=>by
   subst hen;show lk ((p,d)::jl en.C p) k=_;rw [kW,vK];split<;>rfl
  have hn:en'.n=en.n:=by subst hen;rfl
  have hW:Wf cx en' l:=by
   refine ⟨hn.trans hw.n,fun k d' h=> ?_,fun q d' h=> ?_,fun k a h=>hw.A k a (hA k a h).1,by subst hen;exact CV hw.nd⟩
   ·rw [hT] at h
    split at h
    ·cases h
    ·obtain ⟨h1,h2,h3⟩:=hw.T k d' h
     refine ⟨by rw [hn];exact h1,h2,?_⟩
     cases e2:lk en'.A k with
     |none=>rfl
     |some b=>rw [(hA k b e2).1] at h3;cases h3
   ·rw [hC] at h
    rw [hn]
    split at h
    ·rename_i e;subst e;cases h;exact ⟨hd,hp⟩
    ·exact hw.C q d' h
  have hS:oz cx fr en l en' l (some p) (some p):=by
   refine ⟨fun k hk=>by rw [hT,if_neg (fun e=>hk (by rw [e]))],fun k b hk h=>⟨(hA k b h).1,fun j hj=>by cases hj;exact (hA k b h).2.2⟩,fun q hq=>by rw [hC,if_neg (fun e=>hq (by rw [e]))],fun d hd=> ?_⟩
   unfold vD;rw [hn]
  refine ⟨hW,⟨fun k v hk=> ?_,fun q x hq=> ?_⟩,rfl⟩
  ·show (if some p=some k then some (SV.ptr p 0 true) else bU cx en fr l k)=some v
   by_cases e2:p=k
   ·subst e2
    rw [if_pos rfl]
    have hk':bU cx en' fr l p=some v:=hk
    unfold bU at hk'
    rw [hT,if_pos rfl] at hk'
    simp only [hp,if_true] at hk'
    cases e3:bf cx en' fr l p with
    |none=>rw [e3] at hk';cases hk'
    |some x=>rw [e3] at hk';exact hk'
   ·rw [if_neg (by simpa using e2)]
    exact hS.bU hw hW (fun q x hq hq'=>absurd hq hq') k (by simpa using e2) v hk
  ·show (if p=q then some (vD en fr l d) else bf cx en fr l q)=some x
   have hq':bf cx en' fr l q=some x:=hq
   by_cases e2:p=q
   ·subst e2
    rw [if_pos rfl]
    unfold bf at hq'
    rw [hC,if_pos rfl] at hq'
    simp only [Option.some.injEq] at hq'
    rw [<-hq'];unfold vD;rw [hn]
   ·rw [if_neg e2,<-hS.bf hw q (by simpa using e2)];exact hq'
theorem KS {k p off:Nat} {c:Bool} (h:bU cx en fr l k=some (.ptr p off c)) (ha:zX en.A p=false):k=p:=by
 unfold bU at h
 split at h
 ·cases h
 ·split at h
  ·split at h
   ·cases h;rfl
   ·cases h
  ·split at h
   ·rename_i a he
    simp only [Option.some.injEq,SV.ptr.injEq] at h
    exact absurd h.1 (Ro ha _ (CU he))
   ·split at h<;>cases h
theorem amf {p:Nat} {y:X} (hw:Wf cx en l) (hp:mem cx.PV p=true) (hy:bf cx en fr l p=some y) (x:X) (sv:SV):
  Wf cx (vI en p) (x::l)/\(aX cx (vI en p) fr (x::l)).le ((aX cx en fr l).upd none sv (some (p,x))):=by
 have hC:∀ k,lk (vI en p).C k=if p=k then some (.loc en.n) else lk en.C k:=fun k=>by
  show lk ((p,D.loc en.n)::jl en.C p) k=_;rw [kW,vK];split<;>rfl
 have hW:Wf cx (vI en p) (x::l):=by
  refine ⟨by show en.n+1=_;rw [hw.n];rfl,fun k d h=>⟨(hw.T k d h).1.mono (Nat.le_succ _),(hw.T k d h).2⟩,fun q d h=> ?_,hw.A,hw.nd⟩
  rw [hC] at h
  split at h
  ·rename_i e;subst e;cases h;exact ⟨Nat.lt_succ_self _,hp⟩
  ·exact ⟨(hw.C q d h).1.mono (Nat.le_succ _),(hw.C q d h).2⟩
 have hS:oz cx fr en l (vI en p) (x::l) none (some p):=⟨fun k _=>rfl,fun k a _ h=>⟨h,fun j hj=>by cases hj⟩,fun q hq=>by rw [hC,if_neg (fun e=>hq (by rw [e]))],fun d hd=>KP fr x l hd⟩
 refine ⟨hW,fun k v hk=> ?_,fun q z hq=> ?_⟩
 ·exact hS.bU hw hW (fun q z hq _ _=>by cases hq;exact ⟨y,hy⟩) k (by simp) v hk
 ·show (if p=q then some x else bf cx en fr l q)=some z
  have hq':bf cx (vI en p) fr (x::l) q=some z:=hq
  by_cases e2:p=q
  ·subst e2
   rw [if_pos rfl]
   unfold bf at hq'
   rw [hC,if_pos rfl] at hq'
   simp only [Option.some.injEq] at hq'
   rw [<-hq'];exact congrArg some (KQ en.n fr x l).symm
  ·rw [if_neg e2,<-hS.bf hw q (by simpa using e2)];exact hq'
theorem CW {p:Nat} {kk:D->En->FR} {h:Hp} {k:Kc} {r} (e:(cont cx en p kk).f fr l h k=some r) (hw:Wf cx en l) (hp:mem cx.PV p=true):
  ∃ d en',(kk d en').f fr l h k=some r/\Wf cx en' l/\nu en'.n d/\bf cx en fr l p=some (vD en' fr l d)/\aX cx en' fr l=aX cx en fr l/\en'.n=en.n/\(∀ g,iw cx en' fr l g=iw cx en fr l g)/\(∀ x,dT cx en' x=dT cx en x):=by
 unfold cont at e
 cases hl:lk en.C p with
 |some d=>
  rw [hl] at e
  refine ⟨d,en,e,hw,(hw.C p d hl).1,?_,rfl,rfl,fun _=>rfl,fun _=>rfl⟩
  unfold bf;rw [hl]
 |none=>
  rw [hl] at e
  cases hj:ix cx.G p with
  |none=>rw [hj] at e;cases e
  |some j=>
   rw [hj] at e
   have e':ah (Nat.beq (aW fr j).n 14) none ((kk (.slot j) ⟨en.T,en.A,(p,.slot j)::en.C,en.n⟩).f fr l h k)=some r:=e
   rcases aF e' with ⟨_,h1⟩|⟨h0,h1⟩
   ·cases h1
   ·have fD:=gq h0
    have hold:bf cx en fr l p=some (aW fr j):=by
     unfold bf;rw [hl];simp only [hp,if_true,hj,if_neg fD]
    generalize hen:(⟨en.T,en.A,(p,.slot j)::en.C,en.n⟩:En)=en'
    have hC:∀ k,lk en'.C k=if p=k then some (.slot j) else lk en.C k:=fun k=>by subst hen;show lk ((p,D.slot j)::en.C) k=_;rw [kW]
    have hn:en'.n=en.n:=by subst hen;rfl
    have Rq:en'.T=en.T:=by subst hen;rfl
    have Rt:en'.A=en.A:=by subst hen;rfl
    have hv:∀ d,vD en' fr l d=vD en fr l d:=fun d=>by unfold vD;rw [hn]
    have ny:∀ x,dT cx en' x=dT cx en x:=fun x=>by unfold dT;rw [Rq,Rt]
    have hg:∀ g,iw cx en' fr l g=iw cx en fr l g:=fun g=>by
     cases g with
     |none=>rfl
     |some q=>
      obtain ⟨g,b⟩:=q
      show (match vT cx en' fr l g with
       |some x=>decide (x.n=if b then 33 else 1)
       |none=>false)=(match vT cx en fr l g with
       |some x=>decide (x.n=if b then 33 else 1)
       |none=>false)
      have:vT cx en' fr l g=vT cx en fr l g:=by
       unfold vT;rw [ny]
       cases dT cx en g with
       |none=>rfl
       |some d=>simp only [Option.map_some,hv]
      rw [this]
    have Ru:∀ q,bf cx en' fr l q=bf cx en fr l q:=fun q=>by
     by_cases e2:p=q
     ·subst e2
      rw [hold]
      unfold bf
      rw [hC,if_pos rfl];rfl
     ·unfold bf
      rw [hC,if_neg e2]
      cases lk en.C q with
      |none=>rfl
      |some d=>simp only [hv]
    have hsT:∀ q,bU cx en' fr l q=bU cx en fr l q:=fun q=>by
     unfold bU
     rw [Rq,Rt,Ru]
     cases lk en.T q with
     |some d=>simp only [hv]
     |none=>
      simp only
      cases lk en.A q with
      |none=>rfl
      |some a=>simp only [hg]
    subst hen
    refine ⟨_,_,h1,⟨hw.n,hw.T,fun q d h=> ?_,hw.A,hw.nd⟩,trivial,hold,?_,rfl,hg,ny⟩
    ·rw [hC] at h
     split at h
     ·rename_i e;subst e;cases h;exact ⟨trivial,hp⟩
     ·exact hw.C q d h
    ·unfold aX;exact congr (congrArg dP.mk (funext hsT)) (funext Ru)
theorem Rv {k:Nat} {d:D} (hw:Wf cx en l) (h:dT cx en k=some d):bU cx en fr l k=some (.val (vD en fr l d))/\nu en.n d:=by
 unfold dT at h
 unfold bU
 cases e:lk en.T k with
 |some d'=>rw [e] at h;cases h;exact ⟨rfl,(hw.T k _ e).1⟩
 |none=>
  rw [e] at h
  simp only at h ⊢
  cases e2:mem cx.PV k with
  |true=>rw [e2] at h;cases h
  |false=>
   rw [e2] at h
   cases e3:lk en.A k with
   |some a=>rw [e3] at h;cases h
   |none=>
    rw [e3] at h
    cases e4:ix cx.G k with
    |none=>rw [e4] at h;cases h
    |some j=>rw [e4] at h;cases h;exact ⟨by simp only [Bool.false_eq_true,if_false];rfl,trivial⟩
theorem Ae {x:Operand} {a:AL} (hw:Wf cx en l) (h:jF cx en x=some a):
  ∃ k,x= .tmp k/\mem cx.PV a.p=true/\((k=a.p/\a.off=0/\a.gd=none/\∀ y,bf cx en fr l a.p=some y->bU cx en fr l k=some (.ptr a.p a.off true))\/bU cx en fr l k=some (.ptr a.p a.off (iw cx en fr l a.gd))):=by
 cases x with
 |tmp k=>
  have h': @Option.rec AL (fun _=>Option AL) (cnd (mem cx.PV k) (some ⟨k,0,none⟩) none) (fun a=>some a) (lk en.A k)=some a:=h
  cases e:lk en.A k with
  |some b=>
   rw [e] at h'
   cases h'
   obtain ⟨h1,h2,h3⟩:=hw.A k _ e
   refine ⟨k,rfl,h3,.inr ?_⟩
   unfold bU
   have:lk en.T k=none:=by
    cases e2:lk en.T k with
    |none=>rfl
    |some d=>rw [(hw.T k d e2).2.2] at e;cases e
   rw [this,e]
   simp only [h1,Bool.false_eq_true,if_false]
  |none=>
   rw [e] at h'
   cases e2:mem cx.PV k with
   |false=>rw [e2] at h';cases h'
   |true=>
    rw [e2] at h'
    cases h'
    refine ⟨k,rfl,e2,.inl ⟨rfl,rfl,rfl,fun y hy=> ?_⟩⟩
    unfold bU
    have:lk en.T k=none:=by
     cases e3:lk en.T k with
     |none=>rfl
     |some d=>rw [(hw.T k d e3).2.1] at e2;cases e2
    rw [this]
    simp only [e2,if_true,hy]
 |const v=>cases h
 |func f=>cases h
 |global g=>cases h
end
end
end Go.M
namespace Go.M
open Go
open Go.Eng (SOp SOper SCode)
noncomputable section
variable [aY]
def lQ (P:Program) (o:Oper) (a:Act) (w:World) (Q:Value->World->Prop):Prop:=
 ∀ (next:Act->World->Prop) (K:Exit->Act->World->Prop),(∀ v w',Q v w'->next (a.put o.dst v) w')->o.wp P a w next K
def GW (P:Program) (ops:Array Oper) (o:Oper) (a:Act) (w:World) (Q:Value->World->Prop):Prop:=
 ∀ (next:Act->World->Prop) (K:Exit->Act->World->Prop),(∀ v w',Q v w'->next (a.put o.dst v) w')->if Region.wanted o (yielded ops a.tmps) then o.wp P a w next K else next (a.put o.dst undef) w
theorem lQ.mono {P:Program} {o:Oper} {a:Act} {w:World} {Q Q':Value->World->Prop} (h:lQ P o a w Q) (hq:∀ v w',Q v w'->Q' v w'):lQ P o a w Q':=fun next K hn=>h next K fun v w' hv=>hn v w' (hq v w' hv)
theorem GW.mono {P:Program} {ops:Array Oper} {o:Oper} {a:Act} {w:World} {Q Q':Value->World->Prop} (h:GW P ops o a w Q) (hq:∀ v w',Q v w'->Q' v w'):GW P ops o a w Q':=fun next K hn=>h next K fun v w' hv=>hn v w' (hq v w' hv)
theorem lQ.KT {M:Rel} {P:Program} {o:Oper} {a:Act} {w0 w:World} {fl:Nat} {V:Vw} {h h':Hp} {x:X} (hr:dw M P w0 fl V h w x h' ((execOp a.eval o).run P w)):
  lQ P o a w fun v w'=>∃ V',M.R w0 V' h' w'/\den V' x v/\Stp fl V h w V' w':=fun next K hn=>by
 obtain ⟨v,w',V',h1,h2,h3,h4⟩:=hr
 unfold Oper.wp
 rcases h1 with h1|⟨rfl,h1⟩
 ·rw [h1,Oper.upon_value];exact hn v w' ⟨V',h2,h3,h4⟩
 ·rw [h1,Oper.upon_skip];exact hn _ w' ⟨V',h2,h3,h4⟩
def nA (V:Vw) (γ:Nat->Nat) (u:Value):SV->Prop
 | .val x=>den V x u
 | .ptr p off c=>c=true->u= .pointer (some ⟨γ p,off,none⟩)
def fH (V:Vw) (x:X) (cells:Array Value):Prop:=x.n≠14/\∃ u,den V x u/\u.cells=cells/\∀ v ∈ cells.toList,one v
def vN (b1:Nat) (V:Vw) (γ:Nat->Nat) (w:World) (p:Nat) (x:X):Prop:=
 b1<=γ p/\(∃ cells e,w.heap[γ p]? =some (.cells cells e (0,0))/\fH V x cells)/\∀ b,V.S b->V.ρ b≠γ p
def iX (s:dP) (V:Vw) (γ:Nat->Nat) (a:Act) (LT:List Nat):Prop:=∀ k ∈ LT,∀ sv,s.T k=some sv->nA V γ (a.eval (.tmp k)) sv
def KU (b1:Nat) (s:dP) (V:Vw) (γ:Nat->Nat) (w:World) (LC:List Nat):Prop:=∀ p ∈ LC,∀ x,s.C p=some x->vN b1 V γ w p x
structure FE (w w':World) (g:Nat) (ob:Obj):Prop where
 get:w'.heap[g]? =some ob
 keep:∀ k,k≠g->w'.heap[k]? =w.heap[k]?
 os:w'.os=w.os
 tape:w'.tape=w.tape
 output:w'.output=w.output
inductive Kd where
 |pure (LC:List Nat)
 |heap (fl:Nat)
 |store (p:Nat)
 |new (p:Nat)
def vO (h:Hp):Kd->Nat
 | .heap fl=>fl
 |_=>h.n
def Af (P:Program) (ops:Array Oper) (o:Oper) (LT:List Nat) (s:dP) (h h':Hp) (kd:Kd) (sv:SV) (var:Option (Nat×X)):Prop:=match kd with
 | .pure LC=>var=none/\∀ b1 V γ w a,iX s V γ a LT->KU b1 s V γ w LC->GW P ops o a w fun v w'=>w'=w/\nA V γ v sv
 | .heap fl=>var=none/\∃ x,sv= .val x/\∀ w0 V γ w a,MR w0 V h w->iX s V γ a LT->GW P ops o a w fun v w'=>∃ V',MR w0 V' h' w'/\den V' x v/\Stp fl V h w V' w'
 | .store p=>h'=h/\∃ x y,var=some (p,x)/\s.C p=some y/\∀ b1 V γ w a,iX s V γ a LT->KU b1 s V γ w [p]->GW P ops o a w fun v w'=>∃ cells e,FE w w' (γ p) (.cells cells e (0,0))/\w'.heap.size=w.heap.size/\fH V x cells
 | .new p=>h'=h/\sv= .ptr p 0 true/\(∀ k off c,k≠p->s.T k≠some (.ptr p off c))/\∃ x,var=some (p,x)/\∀ V γ w a,iX s V γ a LT->GW P ops o a w fun v w'=>v= .pointer (some ⟨w.heap.size,0,none⟩)/\∃ cells e,FE w w' w.heap.size (.cells cells e (0,0))/\w'.heap.size=w.heap.size+1/\fH V x cells
def xW (cx:Cx) (h:Hp) (o:OL):Kd->Prop
 | .pure LC=>LC=[]\/∃ p,LC=[p]/\(∀ v,o.vp=some v->v=some p)/\∃ ag sz x,o.op= .load ag sz x
 | .heap fl=>gG o.op≠0/\((∃ ag sz x,o.op= .load ag sz x)\/(∃ sz x y,o.op= .store sz x y)->∀ v,o.vp=some v->v=none)/\(fl=h.n\/(fl=h.fl/\3<=gG o.op/\o.bF=false))/\(ow o.op=true->∀ t,o.dst=some t->mem cx.PV t=false)
 | .store p=>(∀ v,o.vp=some v->v=some p)/\o.dst=none/\∃ sz x y,o.op= .store sz x y
 | .new p=>ow o.op=true/\o.dst=some p/\mem cx.PV p=true
def bB (o:OL):List Nat:=(match o.gd with
 |some (g,_)=>[g]
 |none=>[])++(aO o.op).flatMap bZ
def FH (o:OL) (kd:Kd) (sv:SV):Prop:=∀ p off c,sv= .ptr p off c->o.dst≠none->kd= .new p\/∀ v,o.vp=some v->v=some p
def Out (P:Program) (cx:Cx) (ops:Array Oper) (o:Oper) (ol:OL) (en:En) (fr:FX) (l:Loc) (h:Hp) (ih:En->FR) (k:Kc) (r:List Prop):Prop:=
 ∃ en' l' h' kd sv var,(ih en').f fr l' h' k=some r/\Wf cx en' l'/\(aX cx en' fr l').le ((aX cx en fr l).upd ol.dst sv var)/\aM (vO h kd) h h'/\xW cx h ol kd/\FH ol kd sv/\
  ((∀ p ∈ h'.fa,p)->Af P ops o (bB ol) (aX cx en fr l) h h' kd sv var)
structure fw (P:Program) (cx:Cx) (ops:Array Oper) (o:Oper) (ol:OL):Prop where
 op:Go.Eng.strip P o=some ol.op
 dst:ol.dst=o.dst
 g0:ol.gd=none->o.guard=none
 g1:∀ g wt,ol.gd=some (g,wt)->∃ j,o.guard=some (j,wt)/\((ops[j]?).bind (·.dst))=some g
 pv:∀ t,ol.dst=some t->mem cx.PV t=true->ow ol.op=true
 st:∀ sz x y,ol.op= .store sz x y->ol.dst=none
theorem uG {o:Oper} {a:Act} {ops:Array Oper} {j g:Nat} {wt b:Bool} (hg:o.guard=some (j,wt)) (hd:((ops[j]?).bind (·.dst))=some g) (hv:a.tmps[g]? =some (.bool b)):
  Region.wanted o (yielded ops a.tmps)=(b==wt):=by
 simp only [Region.wanted,hg,yielded,hd,Option.bind_some,hv]
 cases b<;>cases wt<;>rfl
theorem amh {o:Oper} {a:Act} {ops:Array Oper} {j g:Nat} {wt:Bool} (hg:o.guard=some (j,wt)) (hd:((ops[j]?).bind (·.dst))=some g) (hv:a.eval (.tmp g)=undef):
  Region.wanted o (yielded ops a.tmps)=false:=by
 have hv':a.tmps.getD g undef=undef:=hv
 cases e:a.tmps[g]? with
 |none=>simp only [Region.wanted,hg,yielded,hd,Option.bind_some,e];cases wt<;>rfl
 |some u=>
  have:u=undef:=by simpa [Array.getD_eq_getD_getElem?,e] using hv'
  subst this
  simp only [Region.wanted,hg,yielded,hd,Option.bind_some,e]
  cases wt<;>rfl
theorem FI {a:Act} {g:Nat} {b:Bool} (h:a.eval (.tmp g)= .bool b):a.tmps[g]? =some (.bool b):=by
 have hv:a.tmps.getD g undef= .bool b:=h
 cases e:a.tmps[g]? with
 |none=>rw [Array.getD_eq_getD_getElem?,e] at hv;cases hv
 |some u=>rw [Array.getD_eq_getD_getElem?,e] at hv;simpa using hv
section
variable {P:Program} {cx:Cx} {ops:Array Oper} {o:Oper} {ol:OL} {en:En} {fr:FX} {l:Loc} {h:Hp} {k:Kc} {r:List Prop} {ih:En->FR}
theorem Rw {g:Nat} {wt:Bool} (h:ol.gd=some (g,wt)):g ∈ bB ol:=by unfold bB;rw [h];simp
theorem KV {V:Vw} {γ:Nat->Nat} {a:Act} {LT:List Nat} (hw:Wf cx en l) (ht:iX (aX cx en fr l) V γ a LT) {g:Nat} {y:X} (hg:g ∈ LT) (hy:vT cx en fr l g=some y):den V y (a.eval (.tmp g)):=by
 unfold vT at hy
 cases hd:dT cx en g with
 |none=>rw [hd] at hy;cases hy
 |some d=>
  rw [hd] at hy
  simp only [Option.map_some,Option.some.injEq] at hy
  subst hy
  exact ht g hg _ (Rv hw hd).1
theorem nC (hL:fw P cx ops o ol) (hw:Wf cx en l) {V:Vw} {γ:Nat->Nat} {a:Act} {w:World} {Q:Value->World->Prop} (ht:iX (aX cx en fr l) V γ a (bB ol)) (hg:iw cx en fr l ol.gd=true) (hr:lQ P o a w Q):GW P ops o a w Q:=fun next K hn=>by
 have hwant:Region.wanted o (yielded ops a.tmps)=true:=by
  cases hgd:ol.gd with
  |none=>simp [Region.wanted,hL.g0 hgd]
  |some q=>
   obtain ⟨g,wt⟩:=q
   obtain ⟨j,h1,h2⟩:=hL.g1 g wt hgd
   rw [hgd] at hg
   have hg':(match vT cx en fr l g with
    |some x=>decide (x.n=if wt then 33 else 1)
    |none=>false)=true:=hg
   cases hy:vT cx en fr l g with
   |none=>rw [hy] at hg';cases hg'
   |some y=>
    rw [hy] at hg'
    simp only [decide_eq_true_eq] at hg'
    have hd:=KV hw ht (Rw hgd) hy
    cases wt with
    |true=>
     simp only [if_true] at hg'
     rw [uG h1 h2 (FI (vk hg' hd))];rfl
    |false=>
     simp only [Bool.false_eq_true,if_false] at hg'
     rw [uG h1 h2 (FI (zS hg' hd))];rfl
 rw [if_pos hwant]
 exact hr next K hn
def Off (cx:Cx) (en:En) (fr:FX) (l:Loc) (g:Option (Nat×Bool)):Prop:=∃ t b y,g=some (t,b)/\vT cx en fr l t=some y/\(y.n=14\/y.n=if b then 1 else 33)
theorem vP (hL:fw P cx ops o ol) (hw:Wf cx en l) {V:Vw} {γ:Nat->Nat} {a:Act} {w:World} {Q:Value->World->Prop} (ht:iX (aX cx en fr l) V γ a (bB ol)) (hg:Off cx en fr l ol.gd) (hr:Q undef w):GW P ops o a w Q:=fun next K hn=>by
 obtain ⟨g,wt,y,hgd,hy,hn'⟩:=hg
 obtain ⟨j,h1,h2⟩:=hL.g1 g wt hgd
 have hd:=KV hw ht (Rw hgd) hy
 have hwant:Region.wanted o (yielded ops a.tmps)=false:=by
  rcases hn' with fD|fD
  ·exact amh h1 h2 ((ED (by rw [fD])).1 hd)
  ·cases wt with
   |true=>
    simp only [if_true] at fD
    rw [uG h1 h2 (FI (zS fD hd))];rfl
   |false=>
    simp only [Bool.false_eq_true,if_false] at fD
    rw [uG h1 h2 (FI (vk fD hd))];rfl
 rw [if_neg (by rw [hwant];decide)]
 exact hn _ _ hr
def bnd (en:En):Option Nat->En
 |none=>en
 |some t=>pY en t
def FJ (x:X) (l:Loc):Option Nat->Loc
 |none=>l
 |some _=>x::l
theorem Ag (hw:Wf cx en l) (hd:∀ t,ol.dst=some t->mem cx.PV t=false) (x:X):Wf cx (bnd en ol.dst) (FJ x l ol.dst)/\(aX cx (bnd en ol.dst) fr (FJ x l ol.dst)).le ((aX cx en fr l).upd ol.dst (.val x) none):=by
 cases e:ol.dst with
 |none=>
  refine ⟨hw,fun k v hk=> ?_,fun p x hp=>hp⟩
  show (if none=some k then some (SV.val x) else bU cx en fr l k)=some v
  rw [if_neg (by simp)];exact hk
 |some t=>exact amc hw (hd t e) x
abbrev bO (fl:Nat) (h:Hp):Hp:=⟨h.n,fl,h.t,h.fa,h.q⟩
theorem Rx {f:FO} (e:(emit f ol.dst en ih).f fr l h k=some r):f.f fr l h (fun x h=>(ih (bnd en ol.dst)).f fr (FJ x l ol.dst) h k)=some r:=by
 unfold emit at e
 cases hd:ol.dst with
 |none=>rw [hd] at e;exact e
 |some t=>rw [hd] at e;exact e
theorem ami {f:FO} {kk:Kx} (e:(zZ f).f fr l h kk=some r):f.f fr l (bO h.n h) (fun x h'=>kk x (bO h.fl h'))=some r:=by
 cases h with
 |mk n fl t fa q=>
  have e':f.f fr l ⟨n,n,t,fa,q⟩ (fun x h'=>xB h' fun n _ t fa q=>kk x ⟨n,fl,t,fa,q⟩)=some r:=e
  have:(fun (x:X) (h':Hp)=>xB h' fun n _ t fa q=>kk x ⟨n,fl,t,fa,q⟩)=fun x h'=>kk x (bO fl h'):=by
   funext x h';cases h';rfl
  rw [this] at e';exact e'
theorem amj {f:FO} {g:Nat} {b:Bool} {y:X} {ac:Ac} {kk:Kx} (hy:ac.g fr l=y) (e:(Fa ac b f).f fr l h kk=some r):(y.n=(if b then 33 else 1)/\f.f fr l h kk=some r)\/((y.n=14\/y.n=if b then 1 else 33)/\kk xU h=some r):=by
 subst hy
 cases b with
 |true=>
  have e':ah (Nat.beq (ac.g fr l).n 33) (f.f fr l h kk) (ah (Nat.beq (ac.g fr l).n 1) (kk xU h) (ah (Nat.beq (ac.g fr l).n 14) (kk xU h) none))=some r:=e
  rcases aF e' with ⟨h1,h2⟩|⟨_,h2⟩
  ·exact .inl ⟨aC h1,h2⟩
  ·rcases aF h2 with ⟨h1,h2⟩|⟨_,h2⟩
   ·exact .inr ⟨.inr (aC h1),h2⟩
   ·obtain ⟨h1,h2⟩:=aI h2
    exact .inr ⟨.inl (aC h1),h2⟩
 |false=>
  have e':ah (Nat.beq (ac.g fr l).n 1) (f.f fr l h kk) (ah (Nat.beq (ac.g fr l).n 33) (kk xU h) (ah (Nat.beq (ac.g fr l).n 14) (kk xU h) none))=some r:=e
  rcases aF e' with ⟨h1,h2⟩|⟨_,h2⟩
  ·exact .inl ⟨aC h1,h2⟩
  ·rcases aF h2 with ⟨h1,h2⟩|⟨_,h2⟩
   ·exact .inr ⟨.inr (aC h1),h2⟩
   ·obtain ⟨h1,h2⟩:=aI h2
    exact .inr ⟨.inl (aC h1),h2⟩
theorem KW {g:Nat} {ac:Ac} (e:bN cx en (.tmp g)=some ac):vT cx en fr l g=some (ac.g fr l):=by
 have e':oD (dT cx en g) none (fun d=>some (ko en.n d))=some ac:=e
 unfold vT
 cases hd:dT cx en g with
 |none=>rw [hd] at e';cases e'
 |some d=>rw [hd] at e';cases e';rfl
theorem Ah {f:FO} {Pr:X->Hp->Prop} (e:(gen cx ol en ih f).f fr l h k=some r)
  (hc:∀ kk,f.f fr l (if ol.bF then bO h.n h else h) kk=some r->∃ x h',kk x h'=some r/\Pr x h'):
  ∃ x h',(ih (bnd en ol.dst)).f fr (FJ x l ol.dst) h' k=some r/\((∃ h2,Pr x h2/\h'=(if ol.bF then bO h.fl h2 else h2)/\iw cx en fr l ol.gd=true)\/(x=xU/\h'=h/\Off cx en fr l ol.gd)):=by
 have core:∀ kk,(cnd ol.bF (zZ f) f).f fr l h kk=some r->∃ x h2,kk x (if ol.bF then bO h.fl h2 else h2)=some r/\Pr x h2:=fun kk e=>by
  cases hf:ol.bF with
  |true=>
   rw [hf] at e hc
   obtain ⟨x,h2,h3,h4⟩:=hc _ (ami e)
   exact ⟨x,h2,h3,h4⟩
  |false=>
   rw [hf] at e hc
   obtain ⟨x,h2,h3,h4⟩:=hc _ e
   exact ⟨x,h2,h3,h4⟩
 unfold gen at e
 cases hg:ol.gd with
 |none=>
  rw [hg] at e
  obtain ⟨x,h2,h3,h4⟩:=core _ (Rx e)
  exact ⟨x,_,h3,.inl ⟨h2,h4,rfl,rfl⟩⟩
 |some q=>
  obtain ⟨g,b⟩:=q
  rw [hg] at e
  cases ha:bN cx en (.tmp g) with
  |none=>
   have e':(oR (bN cx en (.tmp g)) fun a=>emit (Fa a b (cnd ol.bF (zZ f) f)) ol.dst en ih).f fr l h k=some r:=e
   rw [ha] at e';cases e'
  |some ac=>
   have e':(oR (bN cx en (.tmp g)) fun a=>emit (Fa a b (cnd ol.bF (zZ f) f)) ol.dst en ih).f fr l h k=some r:=e
   rw [ha] at e'
   have hv:=KW (fr:=fr) (l:=l) ha
   rcases amj (g:=g) rfl (Rx e') with ⟨h1,h2⟩|⟨h1,h2⟩
   ·obtain ⟨x,h2,h3,h4⟩:=core _ h2
    refine ⟨x,_,h3,.inl ⟨h2,h4,rfl,?_⟩⟩
    show (match vT cx en fr l g with
     |some x=>decide (x.n=if b then 33 else 1)
     |none=>false)=true
    rw [hv];simpa using h1
   ·exact ⟨xU,h,h2,.inr ⟨rfl,rfl,g,b,_,rfl,hv,h1⟩⟩
end
end
end Go.M
namespace Go.M
open Go
open Go.Eng (SOp SOper SCode)
noncomputable section
variable [aY]
def FK (P:Program) (fl:Nat) (o:Oper) (ops:List (Operand×X)) (h:Hp) (c:Hp->Kx->R):Prop:=
 ∀ k r,c h k=some r->∃ x h',k x h'=some r/\aM fl h h'/\((∀ p ∈ h'.fa,p)->∀ w0 V w (a:Act),MR w0 V h w->(∀ q ∈ ops,den V q.2 (a.eval q.1))->
  lQ P o a w fun v w'=>∃ V',MR w0 V' h' w'/\den V' x v/\Stp fl V h w V' w')
theorem FK.of {P:Program} {fl:Nat} {o:Oper} {xs:List (Operand×X)} {h:Hp} {c:Hp->Kx->R} (hc:ig P fl o xs h c):FK P fl o xs h c:=fun k r e=>by
 obtain ⟨x,h',h1,h2,h3⟩:=hc k r e
 exact ⟨x,h',h1,h2,fun hf w0 V w a hm hd=>lQ.KT (M:=RM) (h3 hf w0 V w a.eval hm hd fun v=>rfl)⟩
theorem MR.bO {w0:World} {V:Vw} {h:Hp} {w:World} (fl:Nat) (hm:MR w0 V h w):MR w0 V (bO fl h) w:=⟨hm.nb,hm.bl,hm.inj,hm.nw,hm.old,hm.sz,hm.os,hm.tape,hm.output,hm.ar⟩
theorem aM.bO {fl f:Nat} {h h':Hp} (a:aM fl (bO f h) h'):aM fl h (bO h.fl h'):=⟨a.n,rfl,a.get,a.fa⟩
section
variable {P:Program} {cx:Cx} {ops:Array Oper} {o:Oper} {ol:OL} {en:En} {fr:FX} {l:Loc} {h:Hp} {k:Kc} {r:List Prop} {ih:En->FR}
theorem t9 (f:Nat):(32*f+9) % 32=9/\(32*f+9) / 32=f:=by omega
theorem fI (hw:Wf cx en l) {V:Vw} {γ:Nat->Nat} {a:Act} {LT:List Nat} (ht:iX (aX cx en fr l) V γ a LT) {x:Operand} {ac:Ac} (hx:∀ j ∈ bZ x,j ∈ LT) (e:bN cx en x=some ac):den V (ac.g fr l) (a.eval x):=by
 cases x with
 |tmp g=>exact KV hw ht (hx g (by simp [bZ])) (KW e)
 |const v=>
  have e':oD (cnd (mX v) (some (D.con (dK v))) none) none (fun d=>some (ko en.n d))=some ac:=e
  cases h1:mX v with
  |false=>rw [h1] at e';cases e'
  |true=>
   rw [h1] at e'
   cases e'
   rw [Fz]
   exact mR h1
 |func f=>
  have e':oD (cnd (Nat.blt f 1000000) (some (D.con ⟨32*f+9,[],oZ⟩)) none) none (fun d=>some (ko en.n d))=some ac:=e
  cases h1:Nat.blt f 1000000 with
  |false=>rw [h1] at e';cases e'
  |true=>
   rw [h1] at e'
   cases e'
   rw [Fz]
   have hlt:f<1000000:=by simpa [Nat.blt_eq] using h1
   refine (xw (x:=⟨32*f+9,[],oZ⟩) (t9 f).1).2 ⟨[],?_,dA.2 rfl⟩
   show Value.func (.func f) #[] #[]=jC ((32*f+9) / 32) _
   rw [(t9 f).2,jC,if_pos hlt]
 |global g=>cases e
theorem CX (hL:fw P cx ops o ol) (hw:Wf cx en l) (hd:∀ t,ol.dst=some t->mem cx.PV t=false) {f:FO} {xs:List (Operand×X)} (e:(gen cx ol en ih f).f fr l h k=some r)
  (hx:∀ V γ a,iX (aX cx en fr l) V γ a (bB ol)->∀ q ∈ xs,den V q.2 (a.eval q.1)) (hcore:∀ h1,eF P o xs h1 (f.f fr l)):Out P cx ops o ol en fr l h ih k r:=by
 obtain ⟨x,h',h1,h2⟩:=Ah (Pr:=fun x h2=>(∀ fl,aM fl (if ol.bF then bO h.n h else h) h2)/\((∀ p ∈ h2.fa,p)->∀ (M:Rel) fl w0 V w (ev:Operand->Value),M.R w0 V (if ol.bF then bO h.n h else h) w->(∀ q ∈ xs,den V q.2 (ev q.1))->(∀ v,ev (.const v)=v)->
  dw M P w0 fl V (if ol.bF then bO h.n h else h) w x h2 ((execOp ev o).run P w))) e fun kk ek=>by
   obtain ⟨x,h2,h3,h4,h5⟩:=hcore _ kk r ek
   exact ⟨x,h2,h3,h4,h5⟩
 obtain ⟨b1,b2⟩:=Ag (fr:=fr) hw hd x
 refine ⟨_,_,h',.pure [],.val x,none,h1,b1,b2,?_,.inl rfl,(fun p off c e=>by cases e),fun hfa=>⟨rfl,fun bb V γ w a ht hc=> ?_⟩⟩
 ·rcases h2 with ⟨h2,⟨h3,_⟩,h4,_⟩|⟨_,rfl,_⟩
  ·subst h4
   split
   ·rename_i hf;simp only [hf,if_true] at h3;exact (h3 _).bO
   ·rename_i hf;simp only [hf,if_false] at h3;exact h3 _
  ·exact .refl _ _
 ·rcases h2 with ⟨h2,⟨_,h3⟩,h4,h5⟩|⟨rfl,_,h5⟩
  ·have KX:∀ p ∈ h2.fa,p:=fun p hp=>hfa p (by subst h4;split<;>exact hp)
   exact (nC hL hw ht h5 (lQ.KT (h3 KX (RC V w) 0 w V w a.eval ⟨rfl,rfl⟩ (hx V γ a ht) fun v=>rfl))).mono fun v w' ⟨V',⟨h6,h7⟩,h8,_⟩=>⟨h7,by subst h6;exact h8⟩
  ·exact vP hL hw ht h5 ⟨rfl,(mU:den V xU undef)⟩
theorem xX (wr:Bool) (hL:fw P cx ops o ol) (hw:Wf cx en l) (hd:∀ t,ol.dst=some t->mem cx.PV t=false) (hfn:h.fl<=h.n) (hc0:gG ol.op≠0) (hw3:wr=true->3<=gG ol.op)
  (hvp:(∃ ag sz x,ol.op= .load ag sz x)\/(∃ sz x y,ol.op= .store sz x y)->∀ v,ol.vp=some v->v=none) {f:FO} {xs:List (Operand×X)} (e:(gen cx ol en ih f).f fr l h k=some r)
  (hx:∀ V γ a,iX (aX cx en fr l) V γ a (bB ol)->∀ q ∈ xs,den V q.2 (a.eval q.1)) (hcore:∀ h1 fl,h1.fl<=h1.n->(wr=true->fl=h1.fl)->FK P fl o xs h1 (f.f fr l)):Out P cx ops o ol en fr l h ih k r:=by
 let F:Nat:=if ol.bF then h.n else if wr then h.fl else h.n
 let h1:Hp:=if ol.bF then bO h.n h else h
 have hF:wr=true->F=h1.fl:=fun hwr=>by
  show (if ol.bF then h.n else if wr then h.fl else h.n)=(if ol.bF then bO h.n h else h).fl
  by_cases hf:ol.bF=true
  ·rw [if_pos hf,if_pos hf]
  ·rw [if_neg hf,if_neg hf,if_pos hwr]
 obtain ⟨x,h',g1,g2⟩:=Ah (Pr:=fun x h2=>aM F h1 h2/\((∀ p ∈ h2.fa,p)->∀ w0 V w (a:Act),MR w0 V h1 w->(∀ q ∈ xs,den V q.2 (a.eval q.1))->
  lQ P o a w fun v w'=>∃ V',MR w0 V' h2 w'/\den V' x v/\Stp F V h1 w V' w')) e fun kk ek=>by
   obtain ⟨x,h2,h3,h4,h5⟩:=hcore h1 F (by show (if ol.bF then bO h.n h else h).fl<=(if ol.bF then bO h.n h else h).n;split;exact Nat.le_refl _;exact hfn) hF kk r ek
   exact ⟨x,h2,h3,h4,h5⟩
 obtain ⟨b1,b2⟩:=Ag (fr:=fr) hw hd x
 have hmr:∀ {w0 V w},MR w0 V h w->MR w0 V h1 w:=fun hm=>by
  show MR _ _ (if ol.bF then bO h.n h else h) _
  split
  ·exact hm.bO _
  ·exact hm
 have hst:∀ {V w V' w'},Stp F V h1 w V' w'->Stp F V h w V' w':=fun hs=>by
  have hn:h1.n=h.n:=by show (if ol.bF then bO h.n h else h).n=h.n;split<;>rfl
  exact ⟨hs.ext,fun b hb=>(hs.new b hb).imp id fun hh=>⟨hn▸hh.1,hh.2⟩,hs.keep,hs.size⟩
 refine ⟨_,_,h',.heap F,.val x,none,g1,b1,b2,?_,⟨hc0,hvp,?_,fun _=>hd⟩,(fun p off c e=>by cases e),fun hfa=>⟨rfl,x,rfl,fun w0 V γ w a hm ht=> ?_⟩⟩
 ·rcases g2 with ⟨h2,⟨h3,_⟩,h4,_⟩|⟨_,rfl,_⟩
  ·subst h4
   show aM F h (if ol.bF then bO h.fl h2 else h2)
   split
   ·rename_i hf
    have h3':aM F (if ol.bF then bO h.n h else h) h2:=h3
    rw [if_pos hf] at h3';exact h3'.bO
   ·rename_i hf
    have h3':aM F (if ol.bF then bO h.n h else h) h2:=h3
    rw [if_neg hf] at h3';exact h3'
  ·exact .refl _ _
 ·show (if ol.bF then h.n else if wr then h.fl else h.n)=h.n\/_
  by_cases hf:ol.bF=true
  ·exact .inl (if_pos hf)
  ·by_cases hr:wr=true
   ·refine .inr ⟨?_,hw3 hr,by simpa using hf⟩
    show (if ol.bF then h.n else if wr then h.fl else h.n)=h.fl
    rw [if_neg hf,if_pos hr]
   ·exact .inl (by rw [if_neg hf,if_neg hr])
 ·rcases g2 with ⟨h2,⟨_,h3⟩,h4,h5⟩|⟨rfl,h4,h5⟩
  ·have KX:∀ p ∈ h2.fa,p:=fun p hp=>hfa p (by subst h4;split<;>exact hp)
   refine (nC hL hw ht h5 (h3 KX w0 V w a (hmr hm) (hx V γ a ht))).mono fun v w' ⟨V',h6,h7,h8⟩=>⟨V',?_,h7,hst h8⟩
   subst h4
   split
   ·exact h6.bO _
   ·exact h6
  ·subst h4
   exact vP hL hw ht h5 ⟨V,hm,mU,.refl ..⟩
def FM (P:Program) (ops:Array Oper) (o:Oper) (LT:List Nat) (s:dP) (h h':Hp) (sv:SV):Prop:=∃ x,sv= .val x/\∀ V γ w a,iX s V γ a LT->¬ V.S h.n->GW P ops o a w fun v w'=>
 (w'=w/\den V x v)\/∃ ob g e,w'=w.alloc ob/\h.n<65536/\h'.n=h.n+1/\bH (bL V h.n w.heap.size g e) w' h.n (gH h' h.n)/\den (bL V h.n w.heap.size g e) x v
def CY (P:Program) (cx:Cx) (ops:Array Oper) (o:Oper) (ol:OL) (en:En) (fr:FX) (l:Loc) (h:Hp) (ih:En->FR) (k:Kc) (r:List Prop):Prop:=
 ∃ en' l' h' kd sv var,(ih en').f fr l' h' k=some r/\Wf cx en' l'/\(aX cx en' fr l').le ((aX cx en fr l).upd ol.dst sv var)/\aM (vO h kd) h h'/\xW cx h ol kd/\FH ol kd sv/\
  ((∀ p ∈ h'.fa,p)->Af P ops o (bB ol) (aX cx en fr l) h h' kd sv var)/\(p9 ol.op=true->FM P ops o (bB ol) (aX cx en fr l) h h' sv)
theorem CY.out (hM:CY P cx ops o ol en fr l h ih k r):Out P cx ops o ol en fr l h ih k r:=by
 obtain ⟨en',l',h',kd,sv,var,h1,h2,h3,h4,h5,h6,h7,_⟩:=hM
 exact ⟨en',l',h',kd,sv,var,h1,h2,h3,h4,h5,h6,h7⟩
theorem amk (hL:fw P cx ops o ol) (hw:Wf cx en l) (hd:∀ t,ol.dst=some t->mem cx.PV t=false) (hfn:h.fl<=h.n) (hc0:gG ol.op≠0)
  (hvp:(∃ ag sz x,ol.op= .load ag sz x)\/(∃ sz x y,ol.op= .store sz x y)->∀ v,ol.vp=some v->v=none) {f:FO} {xs:List (Operand×X)} (e:(gen cx ol en ih f).f fr l h k=some r)
  (hx:∀ V γ a,iX (aX cx en fr l) V γ a (bB ol)->∀ q ∈ xs,den V q.2 (a.eval q.1)) (hcore:∀ h1,Rc P o xs h1 (f.f fr l)):CY P cx ops o ol en fr l h ih k r:=by
 let h1:Hp:=if ol.bF then bO h.n h else h
 have Ai:h1.n=h.n:=by show (if ol.bF then bO h.n h else h).n=h.n;split<;>rfl
 obtain ⟨x,h',g1,g2⟩:=Ah (Pr:=fun x h2=>(∀ fl,aM fl h1 h2)/\(∀ fl w0 V w (ev:Operand->Value),MR w0 V h1 w->(∀ q ∈ xs,den V q.2 (ev q.1))->dw RM P w0 fl V h1 w x h2 ((execOp ev o).run P w))/\h1.n<65536/\h2.n=h1.n+1/\
  (∀ w V (ev:Operand->Value),(∀ q ∈ xs,den V q.2 (ev q.1))->¬ V.S h1.n->∃ v ob g e,(execOp ev o).run P w= .ok (.value v) (w.alloc ob)/\bH (bL V h1.n w.heap.size g e) (w.alloc ob) h1.n (gH h2 h1.n)/\den (bL V h1.n w.heap.size g e) x v)) e fun kk ek=>by
   obtain ⟨x,h2,h3,h4⟩:=hcore h1 kk r ek
   exact ⟨x,h2,h3,h4⟩
 obtain ⟨b1,b2⟩:=Ag (fr:=fr) hw hd x
 have hmr:∀ {w0 V w},MR w0 V h w->MR w0 V h1 w:=fun hm=>by
  show MR _ _ (if ol.bF then bO h.n h else h) _
  split
  ·exact hm.bO _
  ·exact hm
 have hst:∀ {F V w V' w'},Stp F V h1 w V' w'->Stp F V h w V' w':=fun hs=>⟨hs.ext,fun b hb=>(hs.new b hb).imp id fun hh=>⟨Ai▸hh.1,hh.2⟩,hs.keep,hs.size⟩
 refine ⟨_,_,h',.heap h.n,.val x,none,g1,b1,b2,?_,⟨hc0,hvp,.inl rfl,fun _=>hd⟩,(fun p off c e=>by cases e),fun hfa=>⟨rfl,x,rfl,fun w0 V γ w a hm ht=> ?_⟩,fun _=>⟨x,rfl,fun V γ w a ht hn=> ?_⟩⟩
 ·rcases g2 with ⟨h2,⟨h3,_⟩,h4,_⟩|⟨_,rfl,_⟩
  ·subst h4
   show aM h.n h (if ol.bF then bO h.fl h2 else h2)
   have h3':aM h.n (if ol.bF then bO h.n h else h) h2:=h3 _
   split
   ·rename_i hf
    rw [if_pos hf] at h3';exact h3'.bO
   ·rename_i hf
    rw [if_neg hf] at h3';exact h3'
  ·exact .refl _ _
 ·rcases g2 with ⟨h2,⟨_,h3,_⟩,h4,h5⟩|⟨rfl,h4,h5⟩
  ·refine (nC hL hw ht h5 (lQ.KT (h3 h.n w0 V w a.eval (hmr hm) (hx V γ a ht)))).mono fun v w' ⟨V',h6,h7,h8⟩=>⟨V',?_,h7,hst h8⟩
   subst h4
   have h6:MR w0 V' h2 w':=h6
   split
   ·exact h6.bO _
   ·exact h6
  ·subst h4
   exact vP hL hw ht h5 ⟨V,hm,mU,.refl ..⟩
 ·rcases g2 with ⟨h2,⟨_,_,h3,h4,h5⟩,h6,h7⟩|⟨rfl,h4,h5⟩
  ·refine nC hL hw ht h7 fun next K hnx=> ?_
   obtain ⟨v,ob,g,e',q1,q2,q3⟩:=h5 w V a.eval (hx V γ a ht) (by rw [Ai];exact hn)
   unfold Oper.wp
   rw [q1,Oper.upon_value]
   refine hnx _ _ (.inr ⟨ob,g,e',rfl,by rw [<-Ai];exact h3,?_,?_,?_⟩)
   ·subst h6
    rw [<-Ai,<-h4]
    split<;>rfl
   ·rw [Ai] at q2
    have:gH h' h.n=gH h2 h.n:=by
     subst h6
     split<;>rfl
    rw [this];exact q2
   ·rw [Ai] at q3;exact q3
  ·exact vP hL hw ht h5 (.inl ⟨rfl,mU⟩)
theorem dZ {α:Type} {a:Option α} {kk:α->FR} (e:(oR a kk).f fr l h k=some r):∃ x,a=some x/\(kk x).f fr l h k=some r:=by
 cases a with
 |none=>cases e
 |some x=>exact ⟨x,rfl,e⟩
theorem nD (hL:fw P cx ops o ol) (hw:Wf cx en l) (hd:∀ t,ol.dst=some t->mem cx.PV t=false) {f:X->Hp->Kx->R} {x:Operand} (e:(p1 f x cx ol en ih).f fr l h k=some r)
  (hx:∀ j ∈ bZ x,j ∈ bB ol) (hcore:∀ y h1,eF P o [(x,y)] h1 (f y)):Out P cx ops o ol en fr l h ih k r:=by
 obtain ⟨a,ha,e1⟩:=dZ e
 refine CX hL hw hd (xs:=[(x,a.g fr l)]) e1 (fun V γ ac ht q hq=> ?_) fun h1=>hcore _ h1
 simp only [List.mem_singleton] at hq;subst hq
 exact fI hw ht hx ha
theorem qc (hL:fw P cx ops o ol) (hw:Wf cx en l) (hd:∀ t,ol.dst=some t->mem cx.PV t=false) {f:X->X->Hp->Kx->R} {x y:Operand} (e:(p2 f x y cx ol en ih).f fr l h k=some r)
  (hx:∀ j ∈ bZ x,j ∈ bB ol) (hy:∀ j ∈ bZ y,j ∈ bB ol) (hcore:∀ u v h1,eF P o [(x,u),(y,v)] h1 (f u v)):Out P cx ops o ol en fr l h ih k r:=by
 obtain ⟨a,ha,e1⟩:=dZ e
 obtain ⟨b,hb,e2⟩:=dZ e1
 refine CX hL hw hd (xs:=[(x,a.g fr l),(y,b.g fr l)]) e2 (fun V γ ac ht q hq=> ?_) fun h1=>hcore _ _ h1
 simp only [List.mem_cons,List.not_mem_nil,or_false] at hq
 rcases hq with rfl|rfl
 ·exact fI hw ht hx ha
 ·exact fI hw ht hy hb
theorem aml (hL:fw P cx ops o ol) (hw:Wf cx en l) (hd:∀ t,ol.dst=some t->mem cx.PV t=false) {f:X->X->X->Hp->Kx->R} {x y z:Operand} (e:(p3 f x y z cx ol en ih).f fr l h k=some r)
  (hx:∀ j ∈ bZ x,j ∈ bB ol) (hy:∀ j ∈ bZ y,j ∈ bB ol) (hz:∀ j ∈ bZ z,j ∈ bB ol) (hcore:∀ u v s h1,eF P o [(x,u),(y,v),(z,s)] h1 (f u v s)):Out P cx ops o ol en fr l h ih k r:=by
 obtain ⟨a,ha,e1⟩:=dZ e
 obtain ⟨b,hb,e2⟩:=dZ e1
 obtain ⟨c,hc,e3⟩:=dZ e2
 refine CX hL hw hd (xs:=[(x,a.g fr l),(y,b.g fr l),(z,c.g fr l)]) e3 (fun V γ ac ht q hq=> ?_) fun h1=>hcore _ _ _ h1
 simp only [List.mem_cons,List.not_mem_nil,or_false] at hq
 rcases hq with rfl|rfl|rfl
 ·exact fI hw ht hx ha
 ·exact fI hw ht hy hb
 ·exact fI hw ht hz hc
theorem Aj (wr:Bool) (hL:fw P cx ops o ol) (hw:Wf cx en l) (hd:∀ t,ol.dst=some t->mem cx.PV t=false) (hfn:h.fl<=h.n) (hc0:gG ol.op≠0) (hw3:wr=true->3<=gG ol.op)
  (hvp:(∃ ag sz x,ol.op= .load ag sz x)\/(∃ sz x y,ol.op= .store sz x y)->∀ v,ol.vp=some v->v=none) {f:X->Hp->Kx->R} {x:Operand} (e:(p1 f x cx ol en ih).f fr l h k=some r)
  (hx:∀ j ∈ bZ x,j ∈ bB ol) (hcore:∀ y h1 fl,(wr=true->fl=h1.fl)->ig P fl o [(x,y)] h1 (f y)):Out P cx ops o ol en fr l h ih k r:=by
 obtain ⟨a,ha,e1⟩:=dZ e
 refine xX wr hL hw hd hfn hc0 hw3 hvp (xs:=[(x,a.g fr l)]) e1 (fun V γ ac ht q hq=> ?_) fun h1 fl _ hf=> .of (hcore _ h1 fl hf)
 simp only [List.mem_singleton] at hq;subst hq
 exact fI hw ht hx ha
theorem xY (wr:Bool) (hL:fw P cx ops o ol) (hw:Wf cx en l) (hd:∀ t,ol.dst=some t->mem cx.PV t=false) (hfn:h.fl<=h.n) (hc0:gG ol.op≠0) (hw3:wr=true->3<=gG ol.op)
  (hvp:(∃ ag sz x,ol.op= .load ag sz x)\/(∃ sz x y,ol.op= .store sz x y)->∀ v,ol.vp=some v->v=none) {f:X->X->Hp->Kx->R} {x y:Operand} (e:(p2 f x y cx ol en ih).f fr l h k=some r)
  (hx:∀ j ∈ bZ x,j ∈ bB ol) (hy:∀ j ∈ bZ y,j ∈ bB ol) (hcore:∀ u v h1 fl,(wr=true->fl=h1.fl)->ig P fl o [(x,u),(y,v)] h1 (f u v)):Out P cx ops o ol en fr l h ih k r:=by
 obtain ⟨a,ha,e1⟩:=dZ e
 obtain ⟨b,hb,e2⟩:=dZ e1
 refine xX wr hL hw hd hfn hc0 hw3 hvp (xs:=[(x,a.g fr l),(y,b.g fr l)]) e2 (fun V γ ac ht q hq=> ?_) fun h1 fl _ hf=> .of (hcore _ _ h1 fl hf)
 simp only [List.mem_cons,List.not_mem_nil,or_false] at hq
 rcases hq with rfl|rfl
 ·exact fI hw ht hx ha
 ·exact fI hw ht hy hb
theorem Ry (wr:Bool) (hL:fw P cx ops o ol) (hw:Wf cx en l) (hd:∀ t,ol.dst=some t->mem cx.PV t=false) (hfn:h.fl<=h.n) (hc0:gG ol.op≠0) (hw3:wr=true->3<=gG ol.op)
  (hvp:(∃ ag sz x,ol.op= .load ag sz x)\/(∃ sz x y,ol.op= .store sz x y)->∀ v,ol.vp=some v->v=none) {f:X->X->X->Hp->Kx->R} {x y z:Operand} (e:(p3 f x y z cx ol en ih).f fr l h k=some r)
  (hx:∀ j ∈ bZ x,j ∈ bB ol) (hy:∀ j ∈ bZ y,j ∈ bB ol) (hz:∀ j ∈ bZ z,j ∈ bB ol) (hcore:∀ u v s h1 fl,(wr=true->fl=h1.fl)->ig P fl o [(x,u),(y,v),(z,s)] h1 (f u v s)):Out P cx ops o ol en fr l h ih k r:=by
 obtain ⟨a,ha,e1⟩:=dZ e
 obtain ⟨b,hb,e2⟩:=dZ e1
 obtain ⟨c,hc,e3⟩:=dZ e2
 refine xX wr hL hw hd hfn hc0 hw3 hvp (xs:=[(x,a.g fr l),(y,b.g fr l),(z,c.g fr l)]) e3 (fun V γ ac ht q hq=> ?_) fun h1 fl _ hf=> .of (hcore _ _ _ h1 fl hf)
 simp only [List.mem_cons,List.not_mem_nil,or_false] at hq
 rcases hq with rfl|rfl|rfl
 ·exact fI hw ht hx ha
 ·exact fI hw ht hy hb
 ·exact fI hw ht hz hc
end
end
end Go.M
namespace Go.M
open Go
open Go.Eng (SOp SOper SCode)
noncomputable section
variable [aY]
section
variable {P:Program} {cx:Cx} {ops:Array Oper} {o:Oper} {ol:OL} {en:En} {fr:FX} {l:Loc} {h:Hp} {k:Kc} {r:List Prop} {ih:En->FR}
theorem KY {b:Bool} {x:FR} (e:(cnd b x bM).f fr l h k=some r):b=true/\x.f fr l h k=some r:=by
 cases b
 ·cases e
 ·exact ⟨rfl,e⟩
theorem KZ {v:Option (Option Nat)} {a:AL} (h:vH v (some a)=true):∀ q,v=some q->q=some a.p:=fun q hq=>by
 subst hq
 cases q with
 |none=>cases h
 |some p=>rw [aC h]
theorem amm {g:Option (Nat×Bool)} {kk:FR} (e:(Cy cx en g kk).f fr l h k=some r):kk.f fr l h k=some r/\(iw cx en fr l g=true\/Off cx en fr l g):=by
 cases g with
 |none=>exact ⟨e,.inl rfl⟩
 |some q=>
  obtain ⟨g,b⟩:=q
  obtain ⟨ac,ha,e1⟩:=dZ (a:=bN cx en (.tmp g)) e
  have hv:=KW (fr:=fr) (l:=l) ha
  have e2:ah (Nat.beq (ac.g fr l).n 33) (kk.f fr l h k) (ah (Nat.beq (ac.g fr l).n 1) (kk.f fr l h k) (ah (Nat.beq (ac.g fr l).n 14) (kk.f fr l h k) none))=some r:=e1
  have fin:∀ m,(ac.g fr l).n=m->(m=33\/m=1\/m=14)->iw cx en fr l (some (g,b))=true\/Off cx en fr l (some (g,b)):=fun m hm hc=>by
   by_cases hb:m=if b then 33 else 1
   ·refine .inl ?_
    show (match vT cx en fr l g with
     |some x=>decide (x.n=if b then 33 else 1)
     |none=>false)=true
    rw [hv];simpa using hm.trans hb
   ·refine .inr ⟨g,b,_,rfl,hv,?_⟩
    cases b<;>simp at hb ⊢<;>omega
  rcases aF e2 with ⟨h1,h2⟩|⟨_,h2⟩
  ·exact ⟨h2,fin _ (aC h1) (.inl rfl)⟩
  ·rcases aF h2 with ⟨h1,h2⟩|⟨_,h2⟩
   ·exact ⟨h2,fin _ (aC h1) (.inr (.inl rfl))⟩
   ·obtain ⟨h1,h2⟩:=aI h2
    exact ⟨h2,fin _ (aC h1) (.inr (.inr rfl))⟩
theorem Off.not {g:Option (Nat×Bool)} (h:Off cx en fr l g):iw cx en fr l g=false:=by
 obtain ⟨t,b,y,rfl,hy,hn⟩:=h
 show (match vT cx en fr l t with
  |some x=>decide (x.n=if b then 33 else 1)
  |none=>false)=false
 rw [hy]
 cases b<;>simp at hn ⊢<;>omega
theorem Off.congr {dQ:En} {g:Option (Nat×Bool)} (hv:∀ k,vT cx dQ fr l k=vT cx en fr l k) (h:Off cx dQ fr l g):Off cx en fr l g:=by
 obtain ⟨t,b,y,rfl,hy,hn⟩:=h
 exact ⟨t,b,y,rfl,(hv t)▸hy,hn⟩
theorem Rz {dQ:En} (hd:∀ k,dT cx dQ k=dT cx en k) (hn:dQ.n=en.n) (k:Nat):vT cx dQ fr l k=vT cx en fr l k:=by
 unfold vT vD;rw [hd,hn]
theorem CZ {g g':Option (Nat×Bool)} (h:tO g g'=true) (hg:iw cx en fr l g'=true):iw cx en fr l g=true:=by
 cases g with
 |none=>rfl
 |some q=>
  obtain ⟨a,b⟩:=q
  cases g' with
  |none=>cases h
  |some q'=>
   obtain ⟨a',b'⟩:=q'
   have h':(Nat.beq a a'&&(b==b'))=true:=h
   simp only [Bool.and_eq_true,beq_iff_eq] at h'
   rw [aC h'.1,h'.2];exact hg
theorem K3 (hL:fw P cx ops o ol) (hw0:Wf cx en l) {dQ:En} (hw:Wf cx dQ l) (hs:aX cx dQ fr l=aX cx en fr l) (ny:∀ k,dT cx dQ k=dT cx en k) (hn:dQ.n=en.n) (hgx:∀ g,iw cx dQ fr l g=iw cx en fr l g) {t p off:Nat} (ht:ol.dst=some t) (hpt:mem cx.PV t=false) (hp:mem cx.PV p=true) (hvp:∀ v,ol.vp=some v->v=some p)
  (e:(Cy cx dQ ol.gd (Cz cx dQ t ⟨p,off,ol.gd⟩ ih)).f fr l h k=some r)
  (C8:∀ V γ w a,iX (aX cx en fr l) V γ a (bB ol)->iw cx en fr l ol.gd=true->lQ P o a w fun v w'=>w'=w/\v= .pointer (some ⟨γ p,off,none⟩)):Out P cx ops o ol en fr l h ih k r:=by
 obtain ⟨e1,hg⟩:=amm e
 unfold Cz at e1
 cases hG:mem cx.G t with
 |true=>rw [hG] at e1;cases e1
 |false=>
  rw [hG] at e1
  obtain ⟨b1,c,b2,b3⟩:=ame (fr:=fr) (a:=⟨p,off,ol.gd⟩) hw hpt hG hp
  rw [hs] at b2
  refine ⟨_,_,h,.pure [],.ptr p off c,none,e1,b1,by rw [ht];exact b2,.refl _ _,.inl rfl,(fun q off' c' e hne=>by cases e;exact .inr hvp),fun hfa=>⟨rfl,fun bb V γ w a hT hC=> ?_⟩⟩
  rcases hg with hg|hg
  ·rw [hgx] at hg
   exact (nC hL hw0 hT hg (C8 V γ w a hT hg)).mono fun v w' hv=>⟨hv.1,fun _=>hv.2⟩
  ·refine vP hL hw0 hT (hg.congr (Rz ny hn)) ⟨rfl,fun hc=> ?_⟩
   have:=b3 hc
   rw [hg.not] at this;cases this
theorem C9 (hw:Wf cx en l) {x:Operand} {al:AL} {y:X} (hp:jF cx en x=some al) (hy:bf cx en fr l al.p=some y) (hx:∀ j ∈ bZ x,j ∈ bB ol) {V:Vw} {γ:Nat->Nat} {a:Act} (hT:iX (aX cx en fr l) V γ a (bB ol)) (hg:iw cx en fr l al.gd=true):a.eval x= .pointer (some ⟨γ al.p,al.off,none⟩):=by
 obtain ⟨j,rfl,_,h2⟩:=Ae (fr:=fr) hw hp
 rcases h2 with ⟨h3,h4,h5,h6⟩|h2
 ·exact hT j (hx j (by simp [bZ])) _ (h6 y hy) rfl
 ·exact hT j (hx j (by simp [bZ])) _ h2 hg
theorem tV {a:Act} {w:World} {v:Value} {Q:Value->World->Prop} (hr:(execOp a.eval o).run P w= .ok (.value v) w) (hq:Q v w):lQ P o a w Q:=fun next K hn=>by
 unfold Oper.wp;rw [hr,Oper.upon_value];exact hn v w hq
theorem rP {x:Operand} (h:x ∈ aO ol.op):∀ j ∈ bZ x,j ∈ bB ol:=fun j hj=>by
 unfold bB;exact List.mem_append_right _ (List.mem_flatMap.2 ⟨x,h,hj⟩)
theorem vQ {α:Type} {x:X} {z:α} {kk:X->α}:p8 x z kk=kk x:=by cases x;rfl
theorem RA (hL:fw P cx ops o ol) (hw:Wf cx en l) {x:Operand} (hop:ol.op= .jL x) (ho:o.op= .move x\/o.op= .assign x) (hd:∀ t,ol.dst=some t->mem cx.PV t=false) (e:(Ki x cx ol en ih).f fr l h k=some r):Out P cx ops o ol en fr l h ih k r:=by
 have hlk:∀ j ∈ bZ x,j ∈ bB ol:=rP (by rw [hop];simp [aO])
 have hrun:∀ (a:Act) (w:World),(execOp a.eval o).run P w= .ok (.value (a.eval x)) w:=fun a w=>by rcases ho with ho|ho<;>simp only [execOp,ho,Sem.run_pure]
 unfold Ki at e
 obtain ⟨hvp,e⟩:=KY e
 cases hp:jF cx en x with
 |some al=>
  rw [hp] at e
  obtain ⟨t,ht,e1⟩:=dZ (a:=ol.dst) e
  cases hs:tO al.gd ol.gd with
  |false=>rw [hs] at e1;cases e1
  |true=>
   rw [hs] at e1
   obtain ⟨j,hx,hpv,_⟩:=Ae (fr:=fr) hw hp
   obtain ⟨d,dQ,e2,hw2,_,hy,qd,hn,hgx,ny⟩:=CW e1 hw hpv
   exact K3 hL hw hw2 qd ny hn hgx ht (hd t ht) hpv (KZ (hp▸hvp)) e2 fun V γ w a hT hg=>tV (hrun a w) ⟨rfl,C9 hw hp hy hlk hT (CZ hs hg)⟩
 |none=>
  rw [hp] at e
  cases hg:ol.gd with
  |some q=>
   rw [hg] at e
   exact nD hL hw hd e hlk fun y h1=>ajZ ho
  |none=>
   rw [hg] at e
   cases ht:ol.dst with
   |none=>
    rw [ht] at e
    refine ⟨en,l,h,.pure [],.ptr 0 0 false,none,e,hw,?_,.refl _ _,.inl rfl,(fun q off c e hne=>absurd ht hne),fun hfa=>⟨rfl,fun bb V γ w a hT hC=> ?_⟩⟩
    ·rw [ht]
     exact ⟨fun k v hk=>by show (if none=some k then some (SV.ptr 0 0 false) else bU cx en fr l k)=some v;rw [if_neg (by simp)];exact hk,fun p x hp=>hp⟩
    ·exact nC hL hw hT (by rw [hg];rfl) (tV (hrun a w) ⟨rfl,fun hc=>by cases hc⟩)
   |some t=>
    rw [ht] at e
    obtain ⟨d,hd',e1⟩:=dZ (a:=EY cx en x) e
    have hac:bN cx en x=some (ko en.n d):=by show oD (EY cx en x) none _=_;rw [hd']
    have key:nu en.n d->(ih (mZ en t d)).f fr l h k=some r->Out P cx ops o ol en fr l h ih k r:=fun hdk e2=>by
     obtain ⟨b1,b2⟩:=amd (fr:=fr) hw (hd t ht) hdk
     refine ⟨_,_,h,.pure [],.val (vD en fr l d),none,e2,b1,by rw [ht];exact b2,.refl _ _,.inl rfl,(fun p off c e=>by cases e),fun hfa=>⟨rfl,fun bb V γ w a hT hC=> ?_⟩⟩
     exact nC hL hw hT (by rw [hg];rfl) (tV (hrun a w) ⟨rfl,fI hw hT hlk hac⟩)
    have K4:nu en.n d:=by
     cases x with
     |tmp j=>exact (Rv (fr:=fr) hw hd').2
     |const v=>
      have:cnd (mX v) (some (D.con (dK v))) none=some d:=hd'
      cases h1:mX v<;>rw [h1] at this<;>cases this
      trivial
     |func f=>
      have:cnd (Nat.blt f 1000000) (some (D.con ⟨32*f+9,[],oZ⟩)) none=some d:=hd'
      cases h1:Nat.blt f 1000000<;>rw [h1] at this<;>cases this
      trivial
     |global g=>cases hd'
    cases d with
    |loc p=>exact key K4 e1
    |slot j=>exact key K4 e1
    |con y=>
     have e2:(p8 y bM fun y=>ih (mZ en t (.con y))).f fr l h k=some r:=e1
     rw [vQ] at e2
     exact key K4 e2
theorem amn (hL:fw P cx ops o ol) (hw:Wf cx en l) {x:Operand} {ty:TypeId} {fs:Array Field} {fi sz:Nat} {fd:Field} (h1:P.underlying ty=some (.struct fs)) (h2:fs[fi]? =some fd) (h3:Go.Eng.sizeP P fd.type=some sz) (h4:sz≠0)
  (ho:o.op= .fieldAddr ty x fi) (hop:ol.op= .jP fd.offset x) (hd:∀ t,ol.dst=some t->mem cx.PV t=false) (e:(Kn fd.offset x cx ol en ih).f fr l h k=some r):Out P cx ops o ol en fr l h ih k r:=by
 have hlk:∀ j ∈ bZ x,j ∈ bB ol:=rP (by rw [hop];simp [aO])
 unfold Kn at e
 obtain ⟨hvp,e⟩:=KY e
 cases hp:jF cx en x with
 |none=>
  rw [hp] at e
  exact nD hL hw hd e hlk fun y h1'=>aki h1 h2 h3 h4 ho
 |some al=>
  rw [hp] at e
  obtain ⟨t,ht,e1⟩:=dZ (a:=ol.dst) e
  cases hs:tO al.gd ol.gd with
  |false=>rw [hs] at e1;cases e1
  |true=>
   rw [hs] at e1
   obtain ⟨j,hx,hpv,_⟩:=Ae (fr:=fr) hw hp
   obtain ⟨d,dQ,e2,hw2,_,hy,qd,hn,hgx,ny⟩:=CW e1 hw hpv
   exact K3 hL hw hw2 qd ny hn hgx ht (hd t ht) hpv (KZ (hp▸hvp)) e2 fun V γ w a hT hg=>tV (QF h1 h2 h3 h4 ho (C9 hw hp hy hlk hT (CZ hs hg))) ⟨rfl,rfl⟩
theorem amo (hL:fw P cx ops o ol) (hw:Wf cx en l) {x:Operand} (ho:o.op= .nilCheck x) (hop:ol.op= .jM x) (hd:∀ t,ol.dst=some t->mem cx.PV t=false) (e:(Ko x cx ol en ih).f fr l h k=some r):Out P cx ops o ol en fr l h ih k r:=by
 have hlk:∀ j ∈ bZ x,j ∈ bB ol:=rP (by rw [hop];simp [aO])
 unfold Ko at e
 obtain ⟨hvp,e⟩:=KY e
 cases hp:jF cx en x with
 |none=>
  rw [hp] at e
  exact nD hL hw hd e hlk fun y h1'=>akm ho
 |some al=>
  rw [hp] at e
  obtain ⟨t,ht,e1⟩:=dZ (a:=ol.dst) e
  cases hs:tO al.gd ol.gd with
  |false=>rw [hs] at e1;cases e1
  |true=>
   rw [hs] at e1
   obtain ⟨j,hx,hpv,_⟩:=Ae (fr:=fr) hw hp
   obtain ⟨d,dQ,e2,hw2,_,hy,qd,hn,hgx,ny⟩:=CW e1 hw hpv
   refine K3 hL hw hw2 qd ny hn hgx ht (hd t ht) hpv (KZ (hp▸hvp)) e2 fun V γ w a hT hg=> ?_
   have hv:=C9 hw hp hy hlk hT (CZ hs hg)
   exact tV (by simp only [execOp,ho,hv,Sem.run_pure]) ⟨rfl,rfl⟩
end
end
end Go.M
namespace Go.M
open Go
open Go.Eng (SOp SOper SCode)
noncomputable section
variable [aY]
theorem fH.agg {V:Vw} {c:X} {cells:Array Value} (h:fH V c cells) (ht:c.n % 32=2):aU V c.l cells.toList/\(∀ v ∈ cells.toList,one v)/\cells.size=c.n / 32:=by
 obtain ⟨_,u,h1,h2,h3⟩:=h
 obtain ⟨vs,rfl,g1,g2,g3⟩:=(lJ ht).1 h1
 have:cells=vs.toArray:=by rw [<-h2];rfl
 subst this
 exact ⟨g2,h3,by simpa using g3⟩
theorem nE {u:Value} (h:one u):u.cells= #[u]:=by
 unfold one at h
 cases u<;>first|rfl|(simp [Value.oneCell'] at h)
theorem fH.amq {V:Vw} {c:X} {cells:Array Value} (h:fH V c cells) (ht:c.n % 32≠2) (h3:c.n % 32≠3) (fD:c.n % 32≠14):∃ u,den V c u/\cells= #[u]/\one u:=by
 obtain ⟨_,u,h1,h2,h4⟩:=h
 have ho:=xA h1 ht h3 fD
 exact ⟨u,h1,by rw [<-h2,nE ho],ho⟩
theorem fH.mkS {V:Vw} {c:X} {u:Value} (hd:den V c u) (h2:c.n % 32≠2) (h3:c.n % 32≠3) (fD:c.n % 32≠14):fH V c #[u]:=by
 have ho:=xA hd h2 h3 fD
 exact ⟨fun e=>fD (by rw [e]),u,hd,nE ho,by simpa using ho⟩
theorem fH.K5 {V:Vw} {n:Nat} {l:List X} {o:Value} {cells:Array Value} (hl:aU V l cells.toList) (h1:∀ v ∈ cells.toList,one v) (hn:n=32*cells.size+2):fH V ⟨n,l,o⟩ cells:=by
 refine ⟨fun e=> ?_,.agg cells,?_,rfl,h1⟩
 ·have:n=14:=e
  omega
 ·have:=zU (V:=V) (l:=l) (vs:=cells.toList) (n:=n) (o:=o) (by simpa using hn) h1 hl
  simpa using this
theorem fH.of {V:Vw} {c:X} {u:Value} (hd:den V c u) (h3:c.n % 32≠3) (fD:c.n % 32≠14):fH V c u.cells:=by
 by_cases h2:c.n % 32=2
 ·obtain ⟨vs,rfl,g1,g2,g3⟩:=(lJ h2).1 hd
  exact ⟨fun e=>fD (by rw [e]),_,hd,rfl,fun v hv=>g1 v (by simpa [Value.cells] using hv)⟩
 ·rw [nE (xA hd h2 h3 fD)];exact .mkS hd h2 h3 fD
theorem ku {n m:Nat} (h:Nat.beq (Nat.land n 31) m=false):n % 32≠m:=by rw [<-jD];exact gq h
theorem K6 {ag:Bool} {off sz:Nat} {c:X} {h:Hp} {kk:Kx} {r} (e:ou ag off sz c h kk=some r):∃ x,kk x h=some r/\∀ V cells,fH V c cells->
  if ag then ∃ vs:List Value,den V x (.agg vs.toArray)/\vs.length=sz/\∀ j v,vs[j]? =some v->cells[off+j]? =some v else ∃ v,den V x v/\cells[off]? =some v:=by
 unfold ou at e
 rw [fo] at e
 have hc:(⟨c.n,c.l,c.o⟩:X)=c:=by cases c;rfl
 rcases aF e with ⟨t2,e1⟩|⟨t2,e1⟩
 ·have ht:=bJ t2
  rcases aF e1 with ⟨hag,e2⟩|⟨hag,e2⟩
  ·rcases aF e2 with ⟨hn,e3⟩|⟨hn,e3⟩
   ·obtain ⟨h0,e4⟩:=aI e3
    rw [hc] at e4
    have h0:=aC h0
    have hn:c.n=32*sz+2:=aC hn
    refine ⟨c,e4,fun V cells hR=> ?_⟩
    rw [if_pos hag]
    obtain ⟨g1,g2,g3⟩:=hR.agg ht
    refine ⟨cells.toList,?_,by simp;omega,fun j v hj=> ?_⟩
    ·have:=zU (V:=V) (l:=c.l) (vs:=cells.toList) (n:=c.n) (o:=c.o) (by simp;omega) g2 g1
     rw [hc] at this;exact this
    rw [h0,Nat.zero_add];simpa using hj
   ·obtain ⟨g1,e4⟩:=EH e3
    obtain ⟨g2,e5⟩:=Cj e4
    refine ⟨_,e5,fun V cells hR=> ?_⟩
    rw [if_pos hag]
    obtain ⟨q1,q2,q3⟩:=hR.agg ht
    have hlen:=jh q1
    have hd2:=J2 sz (EM off q1)
    have hl2:((cells.toList.drop off).take sz).length=sz:=by
     have:=jh hd2
     rw [this];simp;simp at g2;omega
    refine ⟨_,zU (by rw [hl2];rfl) (fun v hv=>q2 v (List.mem_of_mem_drop (List.mem_of_mem_take hv))) hd2,hl2,fun j v hj=> ?_⟩
    rw [List.getElem?_take] at hj
    split at hj
    ·rw [List.getElem?_drop] at hj;simpa using hj
    ·cases hj
  ·obtain ⟨x,hx,e3⟩:=tH e2
   rw [rF] at e3
   refine ⟨x,e3,fun V cells hR=> ?_⟩
   rw [if_neg (by rw [hag];decide)]
   obtain ⟨q1,q2,q3⟩:=hR.agg ht
   obtain ⟨v,hv,hd⟩:=mJ q1 hx
   exact ⟨v,hd,by simpa using hv⟩
 ·obtain ⟨h0,e2⟩:=aI e1
  rcases aF e2 with ⟨_,e3⟩|⟨hag,e3⟩
  ·cases e3
  ·rw [hc] at e3
   have h0:=aC h0
   refine ⟨c,e3,fun V cells hR=> ?_⟩
   rw [if_neg (by rw [hag];decide)]
   obtain ⟨hne,u,h1,h2,h3⟩:=hR
   obtain ⟨v,hv⟩:∃ v,u=v/\u.cells= #[v]:=by
    refine ⟨u,rfl,?_⟩
    obtain ⟨n,l,o⟩:=c
    have ht:=ku t2
    simp only at ht
    unfold den at h1
    split at h1
    ·subst h1;rfl
    ·subst h1;rfl
    ·exact absurd (by assumption) ht
    ·obtain ⟨vs,rfl,_⟩:=h1;rfl
    ·subst h1;rfl
    ·subst h1;rfl
    ·subst h1;rfl
    ·rw [h1.2];rfl
    ·obtain ⟨_,cap,rfl,_⟩:=h1;rfl
    ·obtain ⟨vs,rfl,_⟩:=h1;unfold jC;split<;>rfl
    ·rw [h1.2];rfl
    ·obtain ⟨a,c,rfl⟩:=h1;rfl
    ·rw [h1.1];exact nE h1.2
    ·rw [h1.1];exact nE h1.2
    ·subst h1;rfl
    ·obtain ⟨a,n,c,rfl⟩:=h1;rfl
    ·exact h1.elim
   obtain ⟨rfl,hv⟩:=hv
   refine ⟨u,h1,?_⟩
   rw [h0,<-h2,hv];rfl
theorem amr {off sz:Nat} {c y:X} {h:Hp} {kk:Kx} {r} (e:Fb off sz c y h kk=some r):∃ x,kk x h=some r/\∀ V cells u,fH V c cells->den V y u->
  off+sz<=cells.size/\u.cells.size=sz/\(∀ v ∈ u.cells.toList,one v)/\fH V x (Go.Eng.pasted cells off u.cells):=by
 unfold Fb at e
 rw [fo,fo] at e
 have hy:(⟨y.n,y.l,y.o⟩:X)=y:=by cases y;rfl
 have whole:∀ V (cells:Array Value) u,den V y u->y.n % 32≠3->y.n % 32≠14->off=0->cells.size=sz->u.cells.size=sz->(∀ v ∈ u.cells.toList,one v)->
   off+sz<=cells.size/\u.cells.size=sz/\(∀ v ∈ u.cells.toList,one v)/\fH V y (Go.Eng.pasted cells off u.cells):=by
  intro V cells u hd h3 fD h0 hs hu h1
  refine ⟨by omega,hu,h1,?_⟩
  have:Go.Eng.pasted cells off u.cells=u.cells:=by
   apply Array.ext
   ·rw [Go.Eng.jb _ _ _ (by omega)];omega
   ·intro i hi hi2
    have:=Go.Eng.iC cells off u.cells (by omega) i
    subst h0
    rw [if_neg (Nat.not_lt_zero _),if_pos (by omega),Nat.sub_zero,Array.getElem?_eq_getElem hi2] at this
    rw [Array.getElem?_eq_getElem hi] at this
    exact Option.some.inj this
  rw [this];exact .of hd h3 fD
 rcases aF e with ⟨hnm,e1⟩|⟨hnm,e1⟩
 ·obtain ⟨h0,e2⟩:=aI e1
  have hnm:c.n=y.n:=aC hnm
  have h0:=aC h0
  rcases aF e2 with ⟨hn,e3⟩|⟨hn,e3⟩
  ·have hn:c.n=32*sz+2:=aC hn
   rw [hy] at e3
   refine ⟨y,e3,fun V cells u hR hd=> ?_⟩
   obtain ⟨q1,q2,q3⟩:=hR.agg (by omega)
   have hy2:y.n % 32=2:=by omega
   obtain ⟨vs,rfl,g1,g2,g3⟩:=(lJ hy2).1 hd
   exact whole V cells _ hd (by omega) (by omega) h0 (by omega) (by show vs.toArray.size=sz;simp;omega) (by show ∀ v ∈ vs.toArray.toList,one v;simpa using g1)
  ·rcases aF e3 with ⟨_,e4⟩|⟨t2,e4⟩
   ·cases e4
   ·obtain ⟨h1,e5⟩:=aI e4
    rcases aF e5 with ⟨_,e6⟩|⟨t3,e6⟩
    ·cases e6
    ·rcases aF e6 with ⟨_,e7⟩|⟨t14,e7⟩
     ·cases e7
     ·rw [hy] at e7
      refine ⟨y,e7,fun V cells u hR hd=> ?_⟩
      have t2:=ku t2
      have t3:=ku t3
      have t14:=ku t14
      obtain ⟨u0,g1,rfl,g3⟩:=hR.amq t2 (by rw [hnm];exact t3) (by rw [hnm];exact t14)
      have hou:=xA hd (by rw [<-hnm];exact t2) t3 t14
      have h1:=aC h1
      exact whole V _ u hd t3 t14 h0 (by simp [h1]) (by rw [nE hou];simp [h1]) (by rw [nE hou];simpa using hou)
 ·rcases aF e1 with ⟨t2,e2⟩|⟨t2,e2⟩
  ·have t2:=bJ t2
   rcases aF e2 with ⟨m2,e3⟩|⟨m2,e3⟩
   ·have m2:=bJ m2
    obtain ⟨hm,e4⟩:=aI e3
    have hm:y.n=32*sz+2:=aC hm
    obtain ⟨hf,e5⟩:=xH e4
    refine ⟨_,e5,fun V cells u hR hd=> ?_⟩
    obtain ⟨q1,q2,q3⟩:=hR.agg t2
    obtain ⟨vs,rfl,g1,g2,g3⟩:=(lJ m2).1 hd
    obtain ⟨a1,a2,a3⟩:=KM (vs:=vs.toArray) q1 q2 (by simpa using g2) (by simpa using g1) hf
    have hvs:vs.length=sz:=by omega
    refine ⟨by simpa [hvs] using a1,by show vs.toArray.size=sz;simp [hvs],by show ∀ v ∈ vs.toArray.toList,one v;simpa using g1,?_⟩
    exact .K5 a2 a3 (by show c.n=32*(Go.Eng.pasted cells off vs.toArray).size+2;rw [Go.Eng.jb _ _ _ a1];omega)
   ·have m2:=ku m2
    obtain ⟨h1,e4⟩:=aI e3
    have h1:=aC h1
    rcases aF e4 with ⟨_,e5⟩|⟨t3,e5⟩
    ·cases e5
    ·rcases aF e5 with ⟨_,e6⟩|⟨t14,e6⟩
     ·cases e6
     ·obtain ⟨hlt,e7⟩:=EI e6
      refine ⟨_,e7,fun V cells u hR hd=> ?_⟩
      have t3:=ku t3
      have t14:=ku t14
      obtain ⟨q1,q2,q3⟩:=hR.agg t2
      have hou:=xA hd m2 t3 t14
      obtain ⟨a1,a2,a3⟩:=KM (vs:= #[u]) (ys:=[y]) (off:=off) q1 q2 (by simpa using dz.2 ⟨u,[],rfl,hd,dA.2 rfl⟩) (by simpa using hou) (by show off+1<=_;omega)
      rw [nE hou]
      refine ⟨by rw [h1];simpa using a1,by simp [h1],by simpa using hou,?_⟩
      rw [hy,Ra hlt]
      exact .K5 a2 a3 (by show c.n=32*(Go.Eng.pasted cells off #[u]).size+2;rw [Go.Eng.jb _ _ _ a1];omega)
  ·have t2:=ku t2
   obtain ⟨h0,e3⟩:=aI e2
   have h0:=aC h0
   obtain ⟨h1,e4⟩:=aI e3
   have h1:=aC h1
   rcases aF e4 with ⟨_,e5⟩|⟨m2,e5⟩
   ·cases e5
   ·rcases aF e5 with ⟨_,e6⟩|⟨m3,e6⟩
    ·cases e6
    ·rcases aF e6 with ⟨_,e7⟩|⟨m14,e7⟩
     ·cases e7
     ·rw [hy] at e7
      refine ⟨y,e7,fun V cells u hR hd=> ?_⟩
      have m2:=ku m2
      have m3:=ku m3
      have m14:=ku m14
      have hou:=xA hd m2 m3 m14
      have hs1:cells.size=1:=by
       obtain ⟨hne,u0,g1,g2,g3⟩:=hR
       obtain ⟨n,l,o⟩:=c
       simp only at t2
       rw [<-g2]
       unfold den at g1
       split at g1
       ·subst g1;rfl
       ·subst g1;rfl
       ·exact absurd (by assumption) t2
       ·obtain ⟨vs,rfl,_⟩:=g1;rfl
       ·subst g1;rfl
       ·subst g1;rfl
       ·subst g1;rfl
       ·rw [g1.2];rfl
       ·obtain ⟨_,cap,rfl,_⟩:=g1;rfl
       ·obtain ⟨vs,rfl,_⟩:=g1;unfold jC;split<;>rfl
       ·rw [g1.2];rfl
       ·obtain ⟨a,c,rfl⟩:=g1;rfl
       ·rw [g1.1,nE g1.2];rfl
       ·rw [g1.1,nE g1.2];rfl
       ·subst g1;rfl
       ·obtain ⟨a,n,c,rfl⟩:=g1;rfl
       ·exact g1.elim
      exact whole V _ u hd m3 m14 h0 (by omega) (by rw [nE hou];simp [h1]) (by rw [nE hou];simpa using hou)
end
end Go.M
namespace Go.M
open Go
open Go.Eng (SOp SOper SCode)
noncomputable section
variable [aY]
section
variable {P:Program} {cx:Cx} {ops:Array Oper} {o:Oper} {ol:OL} {en:En} {fr:FX} {l:Loc} {h:Hp} {k:Kc} {r:List Prop} {ih:En->FR}
theorem nG {b:Bool} {x:FR} (e:(cnd b x bM).f fr l h k=some r):b=true/\x.f fr l h k=some r:=by
 cases b
 ·cases e
 ·exact ⟨rfl,e⟩
theorem K7 {x:FR} (e:(CB ol x).f fr l h k=some r):ol.gd=none/\x.f fr l h k=some r:=by
 unfold CB at e
 cases hg:ol.gd with
 |none=>rw [hg] at e;exact ⟨rfl,e⟩
 |some q=>rw [hg] at e;cases e
theorem RB {v:Option (Option Nat)} (h:vH v none=true):∀ q,v=some q->q=none:=fun q hq=>by
 subst hq
 cases q with
 |none=>rfl
 |some p=>cases h
theorem RD {v:Option (Option Nat)} {a:AL} (h:vH v (some a)=true):∀ q,v=some q->q=some a.p:=fun q hq=>by
 subst hq
 cases q with
 |none=>cases h
 |some p=>rw [aC h]
theorem ams (hL:fw P cx ops o ol) (hw:Wf cx en l) (hfn:h.fl<=h.n) {ag:Bool} {sz:Nat} {x:Operand} {ty:TypeId} (ha:Go.Eng.aggP P ty=some ag) (hs:Go.Eng.sizeP P ty=some sz) (ho:o.op= .load ty x) (hop:ol.op= .load ag sz x)
  (hd:∀ t,ol.dst=some t->mem cx.PV t=false) (e:(Kl ag sz x cx ol en ih).f fr l h k=some r):Out P cx ops o ol en fr l h ih k r:=by
 have hlk:∀ j ∈ bZ x,j ∈ bB ol:=rP (by rw [hop];simp [aO])
 unfold Kl at e
 obtain ⟨hvp,e⟩:=nG e
 cases hp:jF cx en x with
 |none=>
  rw [hp] at e hvp
  exact Aj false hL hw hd hfn (by rw [hop];show (1:Nat)≠0;omega) (fun h=>by cases h) (fun _=>RB hvp) e hlk fun y h1 fl _=>akz ha hs ho
 |some al=>
  rw [hp] at e hvp
  obtain ⟨hsg,e1⟩:=nG e
  obtain ⟨j,hx,hpv,_⟩:=Ae (fr:=fr) hw hp
  obtain ⟨d,dQ,e2,hw2,_,hy,qd,hn,hgx,ny⟩:=CW e1 hw hpv
  obtain ⟨y,h',g1,g2⟩:=Ah (Pr:=fun y h2=>h2=(if ol.bF then bO h.n h else h)/\∀ V cells,fH V (vD dQ fr l d) cells->if ag then ∃ vs:List Value,den V y (.agg vs.toArray)/\vs.length=sz/\∀ j v,vs[j]? =some v->cells[al.off+j]? =some v else ∃ v,den V y v/\cells[al.off]? =some v) e2 fun kk ek=>by
   obtain ⟨y,h2,h3⟩:=K6 ek
   exact ⟨y,_,h2,rfl,h3⟩
  obtain ⟨b1,b2⟩:=Ag (fr:=fr) (ol:=ol) hw2 hd y
  rw [qd] at b2
  have hh:h'=h:=by
   rcases g2 with ⟨h2,⟨h3,_⟩,h4,_⟩|⟨_,h4,_⟩
   ·subst h3;subst h4;split<;>rfl
   ·exact h4
  subst hh
  refine ⟨_,_,h',.pure [al.p],.val y,none,g1,b1,b2,.refl _ _,.inr ⟨al.p,rfl,RD hvp,ag,sz,x,hop⟩,(fun p off c e=>by cases e),fun hfa=>⟨rfl,fun bb V γ w a hT hC=> ?_⟩⟩
  rcases g2 with ⟨h2,⟨h3,h6⟩,h4,h5⟩|⟨rfl,h4,h5⟩
  ·rw [hgx] at h5
   refine nC hL hw hT h5 ?_
   obtain ⟨_,⟨cells,ety,c1,c2⟩,_⟩:=hC al.p (by simp) _ hy
   have hv:=C9 hw hp hy hlk hT (CZ hsg h5)
   have h7:=h6 V cells c2
   cases ag with
   |true=>
    simp only [if_true] at h7
    obtain ⟨vs,q1,q2,q3⟩:=h7
    refine tV (J6 ha hs ho hv q2 fun j v hj=> ?_) ⟨rfl,q1⟩
    have:=q3 j v hj
    rw [Go.Eng.lC c1];exact this
   |false=>
    simp only [Bool.false_eq_true,if_false] at h7
    obtain ⟨v,q1,q2⟩:=h7
    refine tV (QJ ha ho hv ?_) ⟨rfl,q1⟩
    rw [Go.Eng.lC c1];exact q2
  ·exact vP hL hw hT (h5.congr (Rz ny hn)) ⟨rfl,(mU:den V xU undef)⟩
theorem amt (hL:fw P cx ops o ol) (hw:Wf cx en l) (hfn:h.fl<=h.n) {sz:Nat} {x y:Operand} {ty:TypeId} (hs:Go.Eng.sizeP P ty=some sz) (ho:o.op= .store ty x y) (hop:ol.op= .store sz x y)
  (hd:∀ t,ol.dst=some t->mem cx.PV t=false) (e:(Km sz x y cx ol en ih).f fr l h k=some r):Out P cx ops o ol en fr l h ih k r:=by
 have hlk:∀ j ∈ bZ x,j ∈ bB ol:=rP (by rw [hop];simp [aO])
 have RF:∀ j ∈ bZ y,j ∈ bB ol:=rP (by rw [hop];simp [aO])
 unfold Km at e
 obtain ⟨hvp,e⟩:=nG e
 cases hp:jF cx en x with
 |none=>
  rw [hp] at e hvp
  exact xY true hL hw hd hfn (by rw [hop];show (3:Nat)≠0;omega) (fun _=>by rw [hop];exact Nat.le_refl 3) (fun _=>RB hvp) e hlk RF fun u v h1 fl hf=>akA hs ho (hf rfl)
 |some al=>
  rw [hp] at e hvp
  obtain ⟨hgd,e0⟩:=K7 e
  obtain ⟨hsg,e1⟩:=nG e0
  obtain ⟨j,hx,hpv,_⟩:=Ae (fr:=fr) hw hp
  obtain ⟨d,dQ,e2,hw2,_,hy,qd,hn,hgx,ny⟩:=CW e1 hw hpv
  obtain ⟨b,hb,e3⟩:=dZ (a:=bN cx dQ y) e2
  have e4:Fb al.off sz (vD dQ fr l d) (b.g fr l) h (fun x h=>(ih (vI dQ al.p)).f fr (x::l) h k)=some r:=e3
  obtain ⟨z,e5,hz⟩:=amr e4
  obtain ⟨b1,b2⟩:=amf (fr:=fr) (p:=al.p) (y:=vD dQ fr l d) hw2 hpv (by have:=congrFun (congrArg dP.C qd) al.p;exact this.trans hy) z (.ptr 0 0 false)
  rw [qd] at b2
  have hdn:=hL.st _ _ _ hop
  refine ⟨_,_,h,.store al.p,.ptr 0 0 false,some (al.p,z),e5,b1,by rw [hdn];exact b2,.refl _ _,⟨RD hvp,hdn,sz,x,y,hop⟩,(fun q off c e hne=>absurd hdn hne),fun hfa=>⟨rfl,z,_,rfl,hy,fun bb V γ w a hT hC=> ?_⟩⟩
  refine nC hL hw hT (by rw [hgd];rfl) ?_
  obtain ⟨_,⟨cells,ety,c1,c2⟩,_⟩:=hC al.p (by simp) _ hy
  have hv:=C9 hw hp hy hlk hT (CZ (g':=none) hsg rfl)
  have hdy:den V (b.g fr l) (a.eval y):=fI (LT:=bB ol) hw2 (by rw [qd];exact hT) RF hb
  obtain ⟨q1,q2,q3,q4⟩:=hz V cells _ c2 hdy
  intro next K hnx
  unfold Oper.wp
  rw [run_store hs ho hv q2 q3 c1 q1,Oper.upon_skip]
  refine hnx _ _ ⟨_,ety,⟨setRow_heap w (γ al.p) cells _ ety (0,0) c1,fun k hk=>Go.Eng.oP w _ k _ hk,rfl,rfl,rfl⟩,by simp,q4⟩
theorem FN {V:Vw} {zs:List Value} (h1:zs.all mX=true):aU V (lN zs) zs/\∀ v ∈ zs,one v:=⟨zV (mW h1),mW h1⟩
theorem RG {a:Act} {w w':World} {v:Value} {Q:Value->World->Prop} (hr:(execOp a.eval o).run P w= .ok (.value v) w') (hq:Q v w'):lQ P o a w Q:=fun next K hn=>by
 unfold Oper.wp;rw [hr,Oper.upon_value];exact hn v w' hq
theorem FP (w:World) (ob:Obj):FE w (w.alloc ob) w.heap.size ob/\(w.alloc ob).heap.size=w.heap.size+1:=by
 refine ⟨⟨xO w ob,fun k hk=> ?_,rfl,rfl,rfl⟩,pW w ob⟩
 rcases Nat.lt_or_ge k w.heap.size with h|h
 ·exact pV w ob h
 ·rw [Array.getElem?_eq_none (by rw [pW];omega),Array.getElem?_eq_none h]
theorem amu {w0:World} {V:Vw} {w:World} {rows:List X} {vs:List Value} {e n:Nat} {bo:Value} {ety:TypeId} {x:X} (hm:MR w0 V h w) (hn:h.n<65536) (h0:0<e) (hN:n=32*e+1)
  (hR:∀ V',bg V' e rows vs.toArray) (hl:rows.length*e=vs.length) (hx:∀ V,V.S h.n->den V x (.pointer (some ⟨V.ρ h.n,0,none⟩))) (fl:Nat):
  dw RM P w0 fl V h w x (ji h ⟨n,rows,bo⟩) (.ok (.value (.pointer (some ⟨w.heap.size,0,none⟩))) (w.alloc (.cells vs.toArray ety))):=by
 subst hN
 have hB:bH (bL V h.n w.heap.size vs.length e) (w.alloc (.cells vs.toArray ety)) h.n ⟨32*e+1,rows,bo⟩:=by
  unfold bH
  simp only [show (32*e+1) % 32=1 by omega]
  rw [gF,rD,rE]
  exact ⟨vs.toArray,ety,xO w _,by simp,by omega,h0,hl,hR _⟩
 obtain ⟨h2,h3⟩:=hm.alloc (w':=w.alloc (.cells vs.toArray ety)) hn (g:=w.heap.size) (s:=vs.length) (e:=e) (Nat.le_refl _) (by rw [pW];omega) (fun k hk=>pV w _ hk) rfl rfl rfl hB fl
 refine ⟨_,_,_,.inl rfl,h2,?_,h3⟩
 have:=hx (bL V h.n w.heap.size vs.length e) (.inr rfl)
 rw [gF] at this
 exact this
theorem chunk_ok {V:Vw} {sz:Nat}:∀ (m:Nat) {l:List X} {vs:List Value},aU V l vs->(∀ v ∈ vs,one v)->vs.length=m*sz->(chunk sz m l).length=m/\
  ∀ (q:Nat) row,(chunk sz m l)[q]? =some row->row.n=32*sz+2/\row.l.length=sz/\∀ (j:Nat) c,row.l[j]? =some c->∃ u,vs[q*sz+j]? =some u/\one u/\den V c u
 |0,l,vs,_,_,_=>⟨rfl,fun q row hq=>by
  have e:chunk sz 0 l=[]:=rfl
  rw [e] at hq
  simp at hq⟩
 |m+1,l,vs,hd,h1,hl=>by
  have hm:(m+1)*sz=m*sz+sz:=Nat.succ_mul m sz
  have hll:l.length=vs.length:=(jh hd).symm
  obtain ⟨c1,c2⟩:=chunk_ok (sz:=sz) m (EM sz hd) (fun v hv=>h1 v (List.mem_of_mem_drop hv)) (by rw [List.length_drop];omega)
  have e:chunk sz (m+1) l=⟨32*sz+2,l.take sz,oZ⟩::chunk sz m (l.drop sz):=rfl
  refine ⟨by rw [e];simp [c1],fun q row hq=> ?_⟩
  rw [e] at hq
  cases q with
  |zero=>
   simp at hq
   subst hq
   have hts:(l.take sz).length=sz:=by rw [List.length_take];omega
   refine ⟨rfl,hts,fun j c hj=> ?_⟩
   have hj:(l.take sz)[j]? =some c:=hj
   have hjs:j<sz:=by
    have:=(List.getElem?_eq_some_iff.1 hj).1
    omega
   rw [List.getElem?_take_of_lt hjs] at hj
   obtain ⟨v,h2,h3⟩:=mJ hd hj
   exact ⟨v,by rw [Nat.zero_mul,Nat.zero_add];exact h2,EL h1 h2,h3⟩
  |succ q=>
   simp only [List.getElem?_cons_succ] at hq
   obtain ⟨g1,g2,g3⟩:=c2 q row hq
   refine ⟨g1,g2,fun j c hj=> ?_⟩
   obtain ⟨u,h2,h3⟩:=g3 j c hj
   refine ⟨u,?_,h3⟩
   rw [List.getElem?_drop] at h2
   rw [Nat.succ_mul,show q*sz+sz+j=sz+(q*sz+j) by omega]
   exact h2
theorem amv {fl:Nat} {el:TypeId} {zs:List Value} (sz:Nat) (hz:Go.Eng.zerosOf P el=some zs) (ho:o.op= .alloc el) (h1:zs.all Value.oneCell'=true) (h0:0<zs.length):
  ig P fl o [] h (tC (Fe zs sz)):=by
 have old:=akx (fl:=fl) (h:=h) hz ho h1 h0 rfl
 unfold Fe
 cases hs:Nat.beq sz 0 with
 |true=>exact old
 |false=>
  cases hc:Nat.beq (Nat.mul (Nat.div zs.length sz) sz) zs.length with
  |false=>exact old
  |true=>
   have hs:=gq hs
   have hc:=aC hc
   have hc:zs.length / sz*sz=zs.length:=hc
   intro k r e
   obtain ⟨hn,x,e1,hx⟩:=EQ e
   refine ⟨x,_,e1,.al _ _ _ hn,fun _ w0 V w ev hm hd _=> ?_⟩
   rw [J5 hz ho]
   have hch:=fun V'=>chunk_ok (V:=V') (sz:=sz) (zs.length / sz) (FN h1).1 (FN (V:=V') h1).2 hc.symm
   refine amu hm hn (by omega) rfl (fun V' q row hq=> ?_) ?_ hx fl
   ·obtain ⟨g1,g2,g3⟩:=(hch V').2 q row hq
    exact ⟨g1,g2,fun j c hj=>by
     obtain ⟨u,h2,h3,h4⟩:=g3 j c hj
     exact ⟨u,by simpa using h2,h3,h4⟩⟩
   ·have:=(hch V).1
    show (chunk sz (zs.length / sz) (lN zs)).length*sz=_
    rw [this,hc]
theorem amw (hL:fw P cx ops o ol) (hw:Wf cx en l) (hfn:h.fl<=h.n) {el:TypeId} {zs:List Value} (hz:Go.Eng.zerosOf P el=some zs) (ho:o.op= .alloc el) (hop:ol.op= .alloc zs)
  (e:(Kj zs cx ol en ih).f fr l h k=some r):Out P cx ops o ol en fr l h ih k r:=by
 unfold Kj at e
 obtain ⟨hc,e⟩:=nG e
 rw [vQ] at e
 simp only [Bool.and_eq_true] at hc
 obtain ⟨h1,h0⟩:=hc
 have h0:0<zs.length:=by simpa [Nat.blt_eq] using h0
 cases ht:ol.dst with
 |none=>rw [ht] at e;cases e
 |some t=>
  rw [ht] at e
  dsimp only at e
  cases hpv:mem cx.PV t with
  |false=>
   rw [hpv] at e
   have e':(p8 (Fe zs (QX cx.FL t)) bM fun blk=>gen cx ol en ih ⟨fun _ _ h k=>tC blk h k⟩).f fr l h k=some r:=e
   rw [vQ] at e'
   exact xX false hL hw (fun t' ht'=>by rw [ht] at ht';cases ht';exact hpv) hfn (by rw [hop];show (2:Nat)≠0;omega) (fun h=>by cases h) (fun hh=>by rcases hh with ⟨_,_,_,hh⟩|⟨_,_,_,hh⟩<;>rw [hop] at hh<;>cases hh) (xs:=[]) e' (fun V γ a hT q hq=>by simp at hq)
    fun h1' fl _ _=> .of (amv _ hz ho h1 h0)
  |true=>
   rw [hpv] at e
   obtain ⟨hgd,e1⟩:=K7 (ol:=ol) e
   have fin:∀ (c:X),fH ⟨fun _=>False,fun _=>0,fun _=>0,fun _=>0⟩ c zs.toArray->(∀ V,fH V c zs.toArray)->(vG cx ol en t (.con c) ih).f fr l h k=some r->Out P cx ops o ol en fr l h ih k r:=fun c _ hct e2=>by
    obtain ⟨en',e3,b1,b2,b3⟩:=Rp (fr:=fr) e2 hw hpv trivial
    refine ⟨en',l,h,.new t,.ptr t 0 true,_,e3,b1,by rw [ht];exact b2,.refl _ _,⟨by rw [hop];rfl,ht,hpv⟩,(fun q off c e hne=>by cases e;exact .inl rfl),fun hfa=>⟨rfl,rfl,fun k off c hk hs=>hk (KS hs b3),_,rfl,fun V γ w a hT=> ?_⟩⟩
    refine nC hL hw hT (by rw [hgd];rfl) (RG (J5 hz ho) ⟨rfl,zs.toArray,el,(FP _ _).1,(FP _ _).2,?_⟩)
    rw [show vD en fr l (.con c)=c from Fz _ _ _ _]
    exact hct V
   cases hz1:Nat.beq zs.length 1 with
   |true=>
    rw [hz1] at e1
    obtain ⟨v,hv,e2⟩:=dZ (a:=zs.head?) e1
    have e3:(p8 (dK v) bM fun z=>vG cx ol en t (.con z) ih).f fr l h k=some r:=e2
    rw [vQ] at e3
    have hzs:zs=[v]:=by
     match zs,hv,aC hz1 with
     |[u],hv,_=>simp at hv;subst hv;rfl
    have ho1:one v:=mW h1 v (by rw [hzs];simp)
    have hct:∀ V,fH V (dK v) zs.toArray:=fun V=>by
     rw [hzs]
     refine ⟨fun hn=> ?_,v,mR ho1,nE ho1,by simpa using ho1⟩
     have:=(ED (V:=V) (x:=dK v) (by rw [hn])).1 (mR ho1)
     rw [this] at ho1
     cases ho1
    exact fin _ (hct _) hct e3
   |false=>
    rw [hz1] at e1
    have hct:∀ V,fH V ⟨32*zs.length+2,lN zs,oZ⟩ zs.toArray:=fun V=> .K5 (by simpa using (FN h1).1) (by simpa using (FN (V:=V) h1).2) (by simp)
    exact fin _ (hct _) hct e1
theorem amx (hL:fw P cx ops o ol) (hw:Wf cx en l) (hfn:h.fl<=h.n) {el:TypeId} {x:Operand} (ho:o.op= .box el x) (hop:ol.op= .box x)
  (e:(Kk x cx ol en ih).f fr l h k=some r):Out P cx ops o ol en fr l h ih k r:=by
 have hlk:∀ j ∈ bZ x,j ∈ bB ol:=rP (by rw [hop];simp [aO])
 unfold Kk at e
 cases ht:ol.dst with
 |none=>rw [ht] at e;cases e
 |some t=>
  rw [ht] at e
  dsimp only at e
  cases hpv:mem cx.PV t with
  |false=>
   rw [hpv] at e
   exact Aj false hL hw (fun t' ht'=>by rw [ht] at ht';cases ht';exact hpv) hfn (by rw [hop];show (2:Nat)≠0;omega) (fun h=>by cases h) (fun hh=>by rcases hh with ⟨_,_,_,hh⟩|⟨_,_,_,hh⟩<;>rw [hop] at hh<;>cases hh) e hlk
    fun y h1 fl _=>aky ho
  |true=>
   rw [hpv] at e
   obtain ⟨hgd,e1⟩:=K7 (ol:=ol) e
   obtain ⟨b,hb,e2⟩:=dZ (a:=bN cx en x) e1
   have e3:Kh (b.g fr l) h (fun y h=>(vG cx ol ⟨en.T,en.A,en.C,Nat.succ en.n⟩ t (.loc en.n) ih).f fr (y::l) h k)=some r:=e2
   unfold Kh at e3
   rw [fo] at e3
   have hy:(⟨(b.g fr l).n,(b.g fr l).l,(b.g fr l).o⟩:X)=b.g fr l:=by cases b.g fr l;rfl
   rcases aF e3 with ⟨_,e4⟩|⟨t3,e4⟩
   ·cases e4
   ·rcases aF e4 with ⟨_,e5⟩|⟨t14,e5⟩
    ·cases e5
    ·rw [hy] at e5
     have hw2:Wf cx ⟨en.T,en.A,en.C,Nat.succ en.n⟩ (b.g fr l::l):=⟨by show en.n+1=_;rw [hw.n];rfl,fun k d h=>⟨(hw.T k d h).1.mono (Nat.le_succ _),(hw.T k d h).2⟩,fun k d h=>⟨(hw.C k d h).1.mono (Nat.le_succ _),(hw.C k d h).2⟩,hw.A,hw.nd⟩
     have hS:oz cx fr en l ⟨en.T,en.A,en.C,Nat.succ en.n⟩ (b.g fr l::l) none none:=⟨fun k _=>rfl,fun k a _ h=>⟨h,fun j hj=>by cases hj⟩,fun q _=>rfl,fun d hd=>KP fr _ l hd⟩
     have hle:(aX cx ⟨en.T,en.A,en.C,Nat.succ en.n⟩ fr (b.g fr l::l)).le (aX cx en fr l):=⟨fun k v hk=>hS.bU hw hw2 (fun q x hq=>by cases hq) k (by simp) v hk,fun p x hp=>by
      have:=hS.bf hw p (by simp)
      exact this.symm.trans hp⟩
     obtain ⟨en',e6,b1,b2,b3⟩:=Rp (fr:=fr) e5 hw2 hpv (Nat.lt_succ_self _)
     rw [show vD ⟨en.T,en.A,en.C,Nat.succ en.n⟩ fr (b.g fr l::l) (.loc en.n)=b.g fr l from KQ _ _ _ _] at b2
     refine ⟨en',_,h,.new t,.ptr t 0 true,_,e6,b1,by rw [ht];exact b2.trans (dP.amb hle _ _ _),.refl _ _,⟨by rw [hop];rfl,ht,hpv⟩,(fun q off c e hne=>by cases e;exact .inl rfl),fun hfa=>⟨rfl,rfl,fun k off c hk hs=>hk (KS hs b3),_,rfl,fun V γ w a hT=> ?_⟩⟩
     have hdx:=fI hw hT hlk hb
     have hrun:(execOp a.eval o).run P w= .ok (.value (.pointer (some ⟨w.heap.size,0,none⟩))) (w.alloc (.cells (a.eval x).cells el)):=by
      simp [execOp,ho,Instr.box,newVar,newRow]
     exact nC hL hw hT (by rw [hgd];rfl) (RG hrun ⟨rfl,(a.eval x).cells,el,(FP _ _).1,(FP _ _).2,.of hdx (ku t3) (ku t14)⟩)
end
end
end Go.M
namespace Go.M
open Go
open Go.Eng (SOp SOper SCode)
noncomputable section
variable [aY]
section
variable {P:Program} {h:Hp}
theorem amz {x y:X} {k:Kx} {r} (e:Cc x y h k=some r):∃ c h',k c h'=some r/\(∀ fl,aM fl h h')/\(∀ {M:Rel} {w0 V w},M.R w0 V h w->M.R w0 V h' w)/\((∀ p ∈ h'.fa,p)->∀ V u v,den V x u->den V y v->∃ b,bP .eql u v=some (.bool b)/\den V c (.bool b)):=by
 have jN:∀ {u v z:Value},bP .eql u v=some z->∃ b,z= .bool b:=fun {u v z} hz=>by
  cases u<;>cases v<;>first
   |(cases hz;done)
   |(
    rename_i k a k' b
    have hz':(if k=k' then some (Value.bool (a==b)) else none)=some z:=hz
    split at hz'
    ·exact ⟨_,(Option.some.inj hz').symm⟩
    ·cases hz')
   |exact ⟨_,(Option.some.inj hz).symm⟩
 have gen:ic .eql x y h k=some r->∃ c h',k c h'=some r/\(∀ fl,aM fl h h')/\(∀ {M:Rel} {w0 V w},M.R w0 V h w->M.R w0 V h' w)/\((∀ p ∈ h'.fa,p)->∀ V u v,den V x u->den V y v->∃ b,bP .eql u v=some (.bool b)/\den V c (.bool b)):=fun e=>by
  have fG:iU (pQ .eql x y) h k=some r->∃ c h',k c h'=some r/\(∀ fl,aM fl h h')/\(∀ {M:Rel} {w0 V w},M.R w0 V h w->M.R w0 V h' w)/\((∀ p ∈ h'.fa,p)->∀ V u v,den V x u->den V y v->∃ b,bP .eql u v=some (.bool b)/\den V c (.bool b)):=fun e=>by
   obtain ⟨c,q,e1⟩:=tL e
   refine ⟨c,_,e1,fun fl=> .fG,fun {M w0 V w} hm=>M.fG hm,fun hf V u v hu hv=> ?_⟩
   obtain ⟨u',v',z,h1,h2,h3,h4,h5⟩:pQ .eql x y c:=hf _ (List.mem_cons_self ..)
   have:=jk h1 hu;subst this
   have:=jk h2 hv;subst this
   obtain ⟨b,rfl⟩:=jN h5
   exact ⟨b,h5,xK h3 h4⟩
  rcases aF e with ⟨_,e1⟩|⟨_,e1⟩
  ·exact fG e1
  ·rcases aF e1 with ⟨_,e2⟩|⟨_,e2⟩
   ·exact fG e2
   ·obtain ⟨u,hu,e3⟩:=rG e2
    obtain ⟨v,hv,e4⟩:=rG e3
    cases hs:bP .eql u v with
    |none=>rw [hs] at e4;cases e4
    |some z=>
     rw [hs] at e4
     have e5:om z (fun x=>k x h)=some r:=e4
     rw [xL] at e5
     obtain ⟨b,rfl⟩:=jN hs
     refine ⟨_,h,e5,fun fl=> .refl _ _,fun hm=>hm,fun _ V u' v' hu' hv'=> ?_⟩
     have:=jk hu hu';subst this
     have:=jk hv hv';subst this
     exact ⟨b,hs,mR rfl⟩
 rcases aF e with ⟨t,e1⟩|⟨_,e1⟩
 ·obtain ⟨c,e2,hc⟩:=Cs e1
  refine ⟨c,h,e2,fun fl=> .refl _ _,fun hm=>hm,fun _ V u v hu hv=> ?_⟩
  obtain ⟨ta,tb⟩:=JS t
  have hu:=(dO ta).1 hu
  have hv:=(dO tb).1 hv
  subst hu;subst hv
  refine ⟨_,?_,hc V⟩
  show (if IntKind.i64=IntKind.i64 then some (Value.bool (Int.ofNat (x.n / 32)==Int.ofNat (y.n / 32))) else none)=_
  rw [if_pos rfl]
  congr 2
  rw [tT]
  by_cases hxy:x.n=y.n
  ·simp [hxy]
  ·have:x.n / 32≠y.n / 32:=by omega
   simp [hxy];omega
 ·exact gen e1
theorem RH {x:X} {V:Vw} {u:Value} (h:u7 0 x=true) (hd:den V x u):∃ q n,u= .int q n:=by
 unfold u7 at h
 rw [fq] at h
 split at h
 ·rename_i ht
  have ht:x.n % 32=12\/x.n % 32=13:=by
   have K8:Nat.land x.n 30=12:=aC ht
   have e:Nat.land x.n 30=x.n % 32 / 2*2:=by
    have:Nat.land x.n 30=x.n&&&30:=rfl
    rw [this]
    have h1:x.n&&&30=(x.n % 32)&&&30:=by
     rw [show (x.n % 32)=x.n&&&31 from (Nat.and_two_pow_sub_one_eq_mod x.n 5).symm,Nat.and_assoc];rfl
    rw [h1]
    have:∀ m,m<32->m&&&30=m / 2*2:=by decide
    exact this _ (Nat.mod_lt _ (by decide))
   omega
  have hd:=(jY ht).1 hd
  split at h
  ·rename_i heq;exact ⟨_,_,hd.1.trans heq⟩
  ·rename_i h01 _;cases h01
  ·cases h
 ·simp only [Nat.beq_refl,fq] at h
  split at h
  ·rename_i h0;exact ⟨_,_,(dO (bJ h0)).1 hd⟩
  ·split at h
   ·rename_i h4;exact ⟨_,_,(oh (bJ h4)).1 hd⟩
   ·have h':Nat.beq (Nat.land x.n 31) 5=true:=h
    exact ⟨_,_,(Ca (bJ h')).1 hd⟩
theorem RI {x:X} {V:Vw} {u:Value} (h:u7 1 x=true) (hd:den V x u):∃ s,u= .string s:=by
 unfold u7 at h
 rw [fq] at h
 split at h
 ·rename_i ht
  have ht:x.n % 32=12\/x.n % 32=13:=by
   have K8:Nat.land x.n 30=12:=aC ht
   have e:Nat.land x.n 30=x.n % 32 / 2*2:=by
    have:Nat.land x.n 30=x.n&&&30:=rfl
    rw [this]
    have h1:x.n&&&30=(x.n % 32)&&&30:=by
     rw [show (x.n % 32)=x.n&&&31 from (Nat.and_two_pow_sub_one_eq_mod x.n 5).symm,Nat.and_assoc];rfl
    rw [h1]
    have:∀ m,m<32->m&&&30=m / 2*2:=by decide
    exact this _ (Nat.mod_lt _ (by decide))
   omega
  have hd:=(jY ht).1 hd
  split at h
  ·rename_i heq _;cases heq
  ·rename_i heq;exact ⟨_,hd.1.trans heq⟩
  ·cases h
 ·have:(Nat.beq 1 0)=false:=rfl
  rw [this] at h;cases h
theorem RJ:∀ (ks:List Nat) {l m:List X} {h:Hp} {kk:Bool->Hp->R} {r},Cg ks l m h kk=some r->∃ b h',kk b h'=some r/\(∀ fl,aM fl h h')/\(∀ {M:Rel} {w0 V w},M.R w0 V h w->M.R w0 V h' w)/\
  ((∀ p ∈ h'.fa,p)->∀ V (us vs:List Value) (w:World),aU V l us->aU V m vs->Go.Eng.gP P w ks us vs b)
 |[],l,m,h,kk,r,e=>by
  cases l with
  |cons x l=>cases e
  |nil=>
   cases m with
   |cons y m=>cases e
   |nil=>
    refine ⟨true,h,e,fun fl=> .refl _ _,fun hm=>hm,fun _ V us vs w h1 h2=> ?_⟩
    have h1:=dA.1 h1
    have h2:=dA.1 h2
    subst h1;subst h2
    rfl
 |q::ks,l,m,h,kk,r,e=>by
  cases l with
  |nil=>cases e
  |cons x l=>
   cases m with
   |nil=>cases e
   |cons y m=>
    have fin:∀ {c:X} {h1:Hp},(Cg ks l m h1 fun r' h=>ah (Nat.beq c.n 33) (kk r' h) (ah (Nat.beq c.n 1) (kk false h) none))=some r->(∀ fl,aM fl h h1)->(∀ {M:Rel} {w0 V w},M.R w0 V h w->M.R w0 V h1 w)->
      ((∀ p ∈ h1.fa,p)->∀ V u v,den V x u->den V y v->∃ b,den V c (.bool b)/\∀ (w:World) (d:Nat) (ty:TypeId),((q=0/\∃ k,P.underlying ty=some (.int k))\/(q=1/\P.underlying ty=some .string)\/(q=2/\P.underlying ty=some .bool))->(Op.equalIn (d+1) ty u v).run P w= .ok b w)->
      ∃ b h',kk b h'=some r/\(∀ fl,aM fl h h')/\(∀ {M:Rel} {w0 V w},M.R w0 V h w->M.R w0 V h' w)/\
      ((∀ p ∈ h'.fa,p)->∀ V (us vs:List Value) (w:World),aU V (x::l) us->aU V (y::m) vs->Go.Eng.gP P w (q::ks) us vs b):=by
     intro c h1 e1 hle hM C8
     obtain ⟨r',h2,e2,g1,g2,g3⟩:=RJ ks e1
     have step:∀ (b:Bool),((∀ p ∈ h2.fa,p)->∀ V u v,den V x u->den V y v->∀ b',den V c (.bool b')->b=(b'&&r'))->kk b h2=some r->∃ b h',kk b h'=some r/\(∀ fl,aM fl h h')/\(∀ {M:Rel} {w0 V w},M.R w0 V h w->M.R w0 V h' w)/\
     ((∀ p ∈ h'.fa,p)->∀ V (us vs:List Value) (w:World),aU V (x::l) us->aU V (y::m) vs->Go.Eng.gP P w (q::ks) us vs b):=by
      intro b hb e3
      refine ⟨b,h2,e3,fun fl=>(hle fl).trans (g1 fl),fun hm=>g2 (hM hm),fun hf V us vs w hu hv=> ?_⟩
      obtain ⟨u,us',rfl,hu1,hu2⟩:=dz.1 hu
      obtain ⟨v,vs',rfl,hv1,hv2⟩:=dz.1 hv
      obtain ⟨b',hb1,hb2⟩:=C8 (fun p hp=>hf p ((g1 0).fa p hp)) V u v hu1 hv1
      have hbb:=hb hf V u v hu1 hv1 b' hb1
      subst hbb
      exact ⟨b',r',rfl,fun d ty hk=>hb2 w d ty hk,g3 hf V us' vs' w hu2 hv2⟩
     rcases aF e2 with ⟨t33,e3⟩|⟨_,e3⟩
     ·refine step r' (fun _ V u v _ _ b' hb'=> ?_) e3
      have:=vk (aC t33) hb'
      simp only [Value.bool.injEq] at this
      subst this;rfl
     ·obtain ⟨t1,e4⟩:=aI e3
      refine step false (fun _ V u v _ _ b' hb'=> ?_) e4
      have:=zS (aC t1) hb'
      simp only [Value.bool.injEq] at this
      subst this;rfl
    have e':ah (Nat.beq q 2) (Cf false x y h fun c h=>Cg ks l m h fun r' h=>ah (Nat.beq c.n 33) (kk r' h) (ah (Nat.beq c.n 1) (kk false h) none))
     (ah (u7 q x) (ah (u7 q y) (Cc x y h fun c h=>Cg ks l m h fun r' h=>ah (Nat.beq c.n 33) (kk r' h) (ah (Nat.beq c.n 1) (kk false h) none)) none) none)=some r:=e
    rcases aF e' with ⟨t2,e1⟩|⟨t2,e1⟩
    ·obtain ⟨a,b,t1,t3,ha,hb,c,e2,hc⟩:=QB e1
     refine fin e2 (fun fl=> .refl _ _) (fun hm=>hm) fun _ V u v hu hv=>⟨a==b,by simpa using hc V,fun w d ty hq=> ?_⟩
     have hu:=(lI t1).1 hu
     have hv:=(lI t3).1 hv
     rw [<-ha] at hu;rw [<-hb] at hv
     subst hu;subst hv
     have h2:=aC t2
     rcases hq with ⟨h0,_⟩|⟨h0,_⟩|⟨_,hty⟩
     ·omega
     ·omega
     ·exact run_equalIn_bool' w d ty a b hty
    ·obtain ⟨k1,e2⟩:=aI e1
     obtain ⟨k2,e3⟩:=aI e2
     obtain ⟨c,h1,e4,g1,g2,g3⟩:=amz e3
     refine fin e4 g1 g2 fun hf V u v hu hv=> ?_
     obtain ⟨b,hb1,hb2⟩:=g3 hf V u v hu hv
     refine ⟨b,hb2,fun w d ty hq=> ?_⟩
     rcases hq with ⟨rfl,k,hty⟩|⟨rfl,hty⟩|⟨rfl,_⟩
     ·obtain ⟨qa,na,rfl⟩:=RH k1 hu
      obtain ⟨qb,nb,rfl⟩:=RH k2 hv
      have hb':(if qa=qb then some (Value.bool (na==nb)) else none)=some (.bool b):=hb1
      split at hb'
      ·rename_i hqq
       subst hqq
       simp only [Option.some.injEq,Value.bool.injEq] at hb'
       rw [run_equalIn_int w d ty qa k na nb hty,hb']
      ·cases hb'
     ·obtain ⟨sa,rfl⟩:=RI k1 hu
      obtain ⟨sb,rfl⟩:=RI k2 hv
      have hb':some (Value.bool (sa.data.toList==sb.data.toList))=some (.bool b):=hb1
      simp only [Option.some.injEq,Value.bool.injEq] at hb'
      rw [run_equalIn_string w d ty sa sb hty,<-hb',ByteArray.toList_eq,ByteArray.toList_eq]
     ·cases t2
theorem RN {o:Oper} {neg:Bool} {ty ty':TypeId} {fs:Array Field} {ks:List Nat} {a b:Operand} {x y:X} (h1:P.underlying ty=some (.struct fs)) (hk:Go.Eng.kinds2 P fs.toList 0=some ks)
  (hs:P.stoodInHeld ty=false) (hg:P.eqGuardType P.depth ty=false) (ho:o.op= .binOp (if neg then .neq else .eql) ty a b ty'):eF P o [(a,x),(b,y)] h (JL neg ks x y):=fun k r e=>by
 unfold JL at e
 rw [fo,fo] at e
 obtain ⟨t1,e1⟩:=aI e
 obtain ⟨t2,e2⟩:=aI e1
 obtain ⟨c,h',e3,g1,g2,g3⟩:=RJ (P:=P) ks e2
 have e4:kB (if neg then !c else c) h' k=some r:=by
  cases neg<;>cases c<;>exact e3
 obtain ⟨z,e5,hz⟩:=Cs e4
 refine ⟨z,h',e5,g1,fun hf M fl w0 V w ev hm hd _=> ?_⟩
 obtain ⟨us,hu,_,hlu,_⟩:=(lJ (bJ t1)).1 (hd (a,x) (by simp))
 obtain ⟨vs,hv,_,hlv,_⟩:=(lJ (bJ t2)).1 (hd (b,y) (by simp))
 have hu:ev a= .agg us.toArray:=hu
 have hv:ev b= .agg vs.toArray:=hv
 have hfo:P.fieldsOf ty=fs:=by unfold Program.fieldsOf;rw [h1]
 have hrun:=Go.Eng.DT (d:=9997) (xs:=us.toArray) (ys:=vs.toArray) hk (g3 hf V us vs w hlu hlv) (fun j v hj=>by simpa using hj) (fun j v hj=>by simpa using hj)
 have heq:(Op.equalIn 10000 ty (.agg us.toArray) (.agg vs.toArray)).run P w= .ok c w:=by
  rw [run_equalIn_struct w 9999 ty us.toArray vs.toArray (by rw [hfo];exact h1) hs,hfo]
  exact hrun
 have hz:=hz V
 have hstp:Stp fl V h w V w:= .refl ..
 cases neg
 ·simp only [Bool.false_eq_true,if_false] at ho hz
  simp only [execOp,ho,hu,hv,Sem.run_bind,run_eqGuard_agg w _ ty a b us.toArray vs.toArray hg,Result.andThen_ok,run_eql_struct,heq,Sem.run_pure]
  exact ⟨_,w,V,.inl rfl,g2 hm,hz,hstp⟩
 ·simp only [if_true] at ho hz
  simp only [execOp,ho,hu,hv,Sem.run_bind,run_eqGuard_agg w _ ty a b us.toArray vs.toArray hg,Result.andThen_ok,run_neq_struct,heq,Sem.run_pure]
  exact ⟨_,w,V,.inl rfl,g2 hm,hz,hstp⟩
end
end
end Go.M
