/-
  Part of a proof: lemmas and definitions of this work.
  No condition.
-/
import Derived.Test.YtpfhpakpcjfopaaGreatI03
import Derived.Below
import Derived.DataReads
set_option linter.all false
set_option maxRecDepth 100000
set_option maxHeartbeats 8000000
namespace Go.Eng
open Go
def rowOk:Ob->Bool
 | .row _ _ _=>true
 | .box cs=>fB cs
 |_=>false
def sO:Ob->Prop
 | .row _ _ xs=>∀ x ∈ xs,∀ c ∈ x,na c=true
 | .box cs=>∀ c ∈ cs,na c=true
 |_=>False
theorem dV.ahx {w:World} {ok ok':Nat->Prop} {ρ ρ':Nat->Loc} {U U':Nat->Prop} {l:Loc} {o:Ob} (hr:rowOk o=true) (hok:(∀ g,ok g->ok' g)\/sO o)
  (ho:dV w ok ρ U l o):dV w ok' ρ' U' l o:=by
 cases o with
 |row e sz xs=>
  rcases ho with ho|⟨g,o,n,cells,h1,h2,h3,h4,h5,h6⟩
  ·exact .inl ho
  ·refine .inr ⟨g,o,n,cells,h1,h2,h3,h4,h5,fun k x j c hk hj=> ?_⟩
   obtain ⟨u,hu,h1c,hv⟩:=h6 k x j c hk hj
   rcases hok with hok|hok
   ·exact ⟨u,hu,h1c,hv.mono hok (fun _ _=>rfl)⟩
   ·exact ⟨u,hu,h1c,hv.na (hok x (List.mem_of_getElem? hk) c (List.mem_of_getElem? hj))⟩
 |box cs=>
  obtain ⟨g,o,n,e,cells,h1,h2,h3,h4,h5⟩:=ho
  refine ⟨g,o,n,e,cells,h1,h2,h3,h4,fun j c hj=> ?_⟩
  obtain ⟨u,hu,hv⟩:=h5 j c hj
  have hp:=VP.yG hv (DI cs hr j c hj)
  rcases hok with hok|hok
  ·exact ⟨u,hu,.p (hp.mono hok (fun _ _=>rfl))⟩
  ·exact ⟨u,hu,.p (hp.na (hok c (List.mem_of_getElem? hj)))⟩
 |_=>simp [rowOk] at hr
def jS (B:List Nat):List AV->List AV->Prop
 |[],[]=>True
 |x::l,y::l'=>(match x with
  | .ptr i j=>match B[i]? with
   |some b=>y= .ptr b j
   |none=>False
  |x=>x=y/\x.pure=true)/\jS B l l'
 |_,_=>False
theorem Ed {B:List Nat}:∀ (xs ys:List AV),jS B xs ys->xs.length=ys.length/\∀ (i:Nat) (x:AV),xs[i]? =some x->∃ y,ys[i]? =some y/\
  ((∃ k j b,x= .ptr k j/\B[k]? =some b/\y= .ptr b j)\/(x=y/\x.pure=true))
 |[],[],_=>⟨rfl,fun i b h=>by simp at h⟩
 |x::xs,y::ys,h=>by
  simp only [jS] at h
  obtain ⟨h1,h2⟩:=Ed xs ys h.2
  refine ⟨by simp [h1],fun i c hc=> ?_⟩
  cases i with
  |zero=>
   simp at hc;subst hc
   refine ⟨y,rfl,?_⟩
   obtain ⟨h3,_⟩:=h
   split at h3
   ·rename_i k j
    split at h3
    ·rename_i b hb;exact .inl ⟨k,j,b,rfl,hb,h3⟩
    ·exact h3.elim
   ·exact .inr h3
  |succ i=>simpa using h2 i c (by simpa using hc)
 |[],_::_,h=>by simp [jS] at h
 |_::_,[],h=>by simp [jS] at h
section
variable {C C':Ctx} {ρ ρ1:Nat->Loc} {U U1:Nat->Prop} {h:List (Nat×Ob)} {w w':World} {B:List Nat} {bs':List (List AV)} {es:List Ob} {nm:Nat}
def gB (ρ ρ1:Nat->Loc) (nm m:Nat) (k:Nat):Loc:=if nm<=k/\k<nm+m then ρ1 (4+(k - nm)) else ρ k
def BD (U:Nat->Prop) (nm m:Nat) (k:Nat):Prop:=U k\/(nm<=k/\k<nm+m)
theorem Nv {w:World} {ok:Nat->Prop} {ρ:Nat->Loc} {U:Nat->Prop} {x:AV} {u:Value} (h:VR w ok ρ U x u):x.pure=true->VP w ok x u:=VP.yG h
theorem back (hr:HR C ρ U h w) (hw0:C'.w0=w) (hext:∀ g,C'.ext g↔∃ b ∈ B,∃ o n,ρ b= .at g o n) (hloc:∀ i,C'.loc i=(B[i]?).map ρ)
  (hr':HR C' ρ1 U1 (outs bs' es) w') (hB:∀ b ∈ B,∃ cs,get h b=some (.box cs)) (hlen:bs'.length=B.length) (hB4:B.length<=4) (hes:es.all rowOk=true)
  (hm:es.length<=8) {cs:List (List AV)} (hlc:bs'.length=cs.length) (hrel:∀ (i:Nat) (c:List AV),cs[i]? =some c->∃ x,bs'[i]? =some x/\jS B x c) (hfr:∀ b,U b->¬ (nm<=b/\b<nm+8))
  (hgv:∀ g,¬ C'.AX g) (jw:(∀ g,ay C' ρ1 w' g->ay C (gB ρ ρ1 nm es.length) w' g)\/(bs'=[]/\∀ o ∈ es,sO o)):
  HR C (gB ρ ρ1 nm es.length) (BD U nm es.length) (fC nm es++(gy B cs++h)) w'/\
   ∀ x u,VR w (ay C ρ w) ρ U x u->VR w' (ay C (gB ρ ρ1 nm es.length) w') (gB ρ ρ1 nm es.length) (BD U nm es.length) x u:=by
 have IQ:∀ k,U k->gB ρ ρ1 nm es.length k=ρ k:=fun k hk=>by
  unfold gB
  rw [if_neg (fun hh=>hfr k hk ⟨hh.1,by omega⟩)]
 have ayu:∀ k g o n,ρ k= .at g o n->U k:=fun k g o n hk=>by
  apply Classical.byContradiction
  intro hn
  rw [hr.GR hn] at hk;cases hk
 have hcase:∀ k g o n,gB ρ ρ1 nm es.length k= .at g o n->(∃ i,k=nm+i/\i<es.length/\ρ1 (4+i)= .at g o n)\/ρ k= .at g o n:=fun k g o n hk=>by
  unfold gB at hk
  split at hk
  ·rename_i hh
   exact .inl ⟨k - nm,by omega,by omega,hk⟩
  ·exact .inr hk
 have hoff:∀ i g o n,i<es.length->ρ1 (4+i)= .at g o n->w.heap.size<=g/\g<w'.heap.size:=fun i g o n hi hl=>by
  obtain ⟨h1,h2⟩:=hr'.bE g ⟨_,o,n,hl⟩
  refine ⟨?_,h2⟩
  rcases h1 with h1|h1
  ·obtain ⟨b,o',n',hb⟩:=C'.wC g h1
   obtain ⟨h3,_,_⟩:=hr'.fix b _ hb
   have:=hr'.inj (4+i) b g o n o' n' hl h3
   have:=C'.AU b _ hb
   omega
  ·rcases h1 with h1|h1
   ·exact (hgv g h1).elim
   ·rw [hw0] at h1;exact h1
 have hold:∀ k g o n,ρ k= .at g o n->g<w.heap.size:=fun k g o n hl=>(hr.bE g ⟨k,o,n,hl⟩).2
 have hsz:w.heap.size<=w'.heap.size:=by have:=hr'.size;rw [hw0] at this;exact this
 have hheap:∀ g,g<w.heap.size->(∀ b ∈ B,∀ o n,ρ b≠.at g o n)->w'.heap[g]? =w.heap[g]? :=fun g hg hb=>by
  have:=hr'.old g (by rw [hw0];exact hg) (fun he=>by
   obtain ⟨b,fT,o,n,hl⟩:=(hext g).1 he
   exact hb b fT o n hl) (hgv g)
  rw [hw0] at this;exact this
 have hown:∀ g,iI (gB ρ ρ1 nm es.length) g->iI ρ g\/(w.heap.size<=g/\g<w'.heap.size/\∃ i o n,i<es.length/\ρ1 (4+i)= .at g o n):=fun g ⟨k,o,n,hk⟩=>by
  rcases hcase k g o n hk with ⟨i,rfl,hi,hl⟩|hl
  ·have:=hoff i g o n hi hl
   exact .inr ⟨this.1,this.2,i,o,n,hi,hl⟩
  ·exact .inl ⟨k,o,n,hl⟩
 have hok:∀ g,ay C ρ w g->ay C (gB ρ ρ1 nm es.length) w' g:=fun g hg=>⟨hg.1,by have:=hg.2.1;omega,fun ho=>by
  rcases hown g ho with ho|ho
  ·exact hg.2.2 ho
  ·have:=hg.2.1;omega⟩
 have uN:∀ g,ay C ρ w g->w'.heap[g]? =w.heap[g]? :=fun g hg=>hheap g hg.2.1 fun b _ o n hl=>hg.2.2 ⟨b,o,n,hl⟩
 have uO:Later U ρ (gB ρ ρ1 nm es.length):=fun k hk=> .inl (IQ k hk)
 have Nw:∀ k,U k->BD U nm es.length k:=fun k hk=> .inl hk
 refine ⟨⟨fun k o hk=> ?_,fun k hk=> ?_,fun k k' g o n o' n' h1 h2=> ?_,hr'.os.trans (by rw [hw0];exact hr.os),hr'.tape.trans (by rw [hw0];exact hr.tape),
  hr'.output.trans (by rw [hw0];exact hr.output),Nat.le_trans hr.size hsz,fun g hg he hv=> ?_,hr.kL,fun g ho=> ?_,fun b l hb=> ?_⟩,
  fun x u hx=>hx.mono hok uN Nw uO⟩
 ·
  rw [get_append,gY] at hk
  by_cases hin:nm<=k/\k<nm+es.length
  ·have hi:k - nm<es.length:=by omega
   rw [if_pos hin.1,List.getElem?_eq_getElem hi] at hk
   cases hk
   refine ⟨.inr hin,?_⟩
   have e:gB ρ ρ1 nm es.length k=ρ1 (4+(k - nm)):=by unfold gB;rw [if_pos hin]
   rw [e]
   have hg:get (outs bs' es) (4+(k - nm))=some es[k - nm]:=IG (by omega) (List.getElem?_eq_getElem hi)
   obtain ⟨_,ho⟩:=hr'.hp _ _ hg
   have hro:=List.all_eq_true.1 hes es[k - nm] (List.getElem_mem hi)
   refine dV.ahx hro ?_ ho
   rcases jw with jw|jw
   ·exact .inl jw
   ·exact .inr (jw.2 _ (List.getElem_mem hi))
  ·have hno:(if nm<=k then es[k - nm]? else none)=none:=by
    split
    ·exact List.getElem?_eq_none (by omega)
    ·rfl
   rw [hno] at hk
   simp only [get_append] at hk
   have e:gB ρ ρ1 nm es.length k=ρ k:=by unfold gB;rw [if_neg hin]
   rw [e]
   cases hbx:get (gy B cs) k with
   |some o'=>
    rw [hbx] at hk;cases hk
    obtain ⟨i,c2,h1,h2,rfl⟩:=wU B cs k _ hbx
    obtain ⟨cs0,hb0⟩:=hB k (List.mem_of_getElem? h1)
    have sP:=(hr.hp k _ hb0).1
    refine ⟨.inl sP,?_⟩
    obtain ⟨c1,hc1,hrl⟩:=hrel i c2 h2
    have hg:get (outs bs' es) i=some (.box c1):=Bz hc1
    obtain ⟨_,ho⟩:=hr'.hp i _ hg
    have hl:=(hr'.fix i (ρ k) (by rw [hloc,h1];rfl)).1
    rw [hl] at ho
    obtain ⟨g,o,n,e,cells,h3,h4,h5,h6,h7⟩:=ho
    obtain ⟨hal,hag⟩:=Ed c1 c2 hrl
    refine ⟨g,o,n,e,cells,h3,h4,h5,by omega,fun j c hj=> ?_⟩
    obtain ⟨x,hx⟩:∃ x,c1[j]? =some x:=⟨_,List.getElem?_eq_getElem (by rw [hal];exact (List.getElem?_eq_some_iff.1 hj).1)⟩
    obtain ⟨y,hy,hxy⟩:=hag j x hx
    rw [hj] at hy;cases hy
    obtain ⟨u,hu,hv⟩:=h7 j x hx
    refine ⟨u,hu,?_⟩
    rcases hxy with ⟨k',j',b,rfl,hk',rfl⟩|⟨rfl,hp⟩
    ·obtain ⟨_,a,rfl,had⟩:=hv.qi
     obtain ⟨csb,hbb⟩:=hB b (List.mem_of_getElem? hk')
     have Ny:=(hr.hp b _ hbb).1
     have hlb:=(hr'.fix k' (ρ b) (by rw [hloc,hk'];rfl)).1
     refine .ptr a (.inl Ny) ?_
     rw [IQ b Ny,<-hlb]
     exact had
    ·rcases jw with jw|jw
     ·exact .p ((Nv hv hp).mono jw (fun _ _=>rfl))
     ·rw [jw.1] at hc1;simp at hc1
   |none=>
    rw [hbx] at hk
    simp only at hk
    obtain ⟨sP,ho⟩:=hr.hp k o hk
    refine ⟨.inl sP,dV.mono hok uN Nw uO (fun g o n hl=>hheap g (hold k g o n hl) fun b hb o' n' hb'=> ?_) ho⟩
    have:=hr.inj k b g o n o' n' hl hb'
    subst this
    exact Ec B cs k hbx (hlen.symm.trans hlc) hb
 ·rw [get_append,gY] at hk
  have hin:¬ (nm<=k/\k<nm+es.length):=fun hh=>by
   rw [if_pos hh.1,List.getElem?_eq_getElem (show k - nm<es.length by omega)] at hk
   cases hk
  have hno:(if nm<=k then es[k - nm]? else none)=none:=by
   split
   ·exact List.getElem?_eq_none (by omega)
   ·rfl
  rw [hno] at hk
  simp only [get_append] at hk
  unfold gB
  rw [if_neg hin]
  cases hbx:get (gy B cs) k with
  |some o'=>rw [hbx] at hk;cases hk
  |none=>rw [hbx] at hk;exact hr.hd k hk
 ·rcases hcase k g o n h1 with ⟨i,rfl,hi,hl⟩|hl<;>rcases hcase k' g o' n' h2 with ⟨i',rfl,hi',hl'⟩|hl'
  ·have:=hr'.inj _ _ g o n o' n' hl hl'
   omega
  ·have:=hoff i g o n hi hl
   have:=hold _ g o' n' hl'
   omega
  ·have:=hoff i' g o' n' hi' hl'
   have:=hold _ g o n hl
   omega
  ·exact hr.inj _ _ g o n o' n' hl hl'
 ·have hg':g<w.heap.size:=Nat.lt_of_lt_of_le hg hr.size
  rw [<-hr.old g hg he hv]
  refine hheap g hg' fun b hb o n hl=> ?_
  rcases (hr.bE g ⟨b,o,n,hl⟩).1 with h1|h1
  ·exact he h1
  ·rcases h1 with h1|h1
   ·exact hv h1
   ·omega
 ·rcases hown g ho with ho|ho
  ·exact ⟨(hr.bE g ho).1,by have:=(hr.bE g ho).2;omega⟩
  ·exact ⟨.inr (.inr (by have:=hr.size;omega)),ho.2.1⟩
 ·obtain ⟨h1,h2,cs0,h3⟩:=hr.fix b l hb
  refine ⟨by rw [IQ b h2];exact h1,.inl h2,?_⟩
  have hin:¬ (nm<=b/\b<nm+es.length):=fun hh=>hfr b h2 ⟨hh.1,by omega⟩
  have hno:(if nm<=b then es[b - nm]? else none)=none:=by
   split
   ·exact List.getElem?_eq_none (by omega)
   ·rfl
  rw [get_append,gY,hno]
  simp only [get_append]
  cases hbx:get (gy B cs) b with
  |some o'=>
   obtain ⟨i,cs',_,_,rfl⟩:=wU B cs b _ hbx
   exact ⟨cs',rfl⟩
  |none=>exact ⟨cs0,h3⟩
def Fn (P:Program) (f:FuncId) (xs:List AV) (bs:List (List AV)) (r:AV) (bs':List (List AV)) (es:List Ob):Prop:=
 Enters P f/\∀ (C:Ctx) (ρ:Nat->Loc) (U:Nat->Prop) (w:World) (vals:Array Value),HR C ρ U (iR 0 bs) w->(∀ b,U b->b<4)->VL w (ay C ρ w) ρ U xs vals->
  Calls P f vals w fun e w'=>∃ v ρ' U',e= .returned v/\HR C ρ' U' (outs bs' es) w'/\VR w' (ay C ρ' w') ρ' U' r v
structure jc (P:Program) (f:FuncId) (sc:SCode) (res:List fP) (nt:Nat):Prop where
 fn:∃ fn c,P.funcs[f]? =some fn/\(fn.name== "runtime.NumGoroutine")=false/\fn.body=some c/\stripCode P c=some sc/\uM P fn.results.toList=some res/\
  fn.results.toList.length<=5/\fn.ntmps=nt
 ok:lD nt sc=true
 mixed:P.follows .mixedOrders=true
def sQ:Nat->List AV->List (Nat×AV)
 |_,[]=>[]
 |k,x::l=>(k,x)::sQ (k+1) l
theorem IU:∀ (l:List AV) (k j:Nat),get (sQ k l) j=if k<=j then l[j - k]? else none
 |[],k,j=>by simp [sQ]
 |o::l,k,j=>by
  simp only [sQ,get]
  by_cases e:k=j
  ·subst e;simp
  ·rw [if_neg e,IU l (k+1) j]
   by_cases h:k<=j
   ·rw [if_pos h,if_pos (show k+1<=j by omega)]
    have:j - k=(j - (k+1))+1:=by omega
    rw [this,List.getElem?_cons_succ]
   ·rw [if_neg h,if_neg (by omega)]
def Fin (res:List fP) (r:AV) (bs':List (List AV)) (es:List Ob) (t:List (Nat×AV)) (h:List (Nat×Ob)):Prop:=
 ∃ S N xs,oU t h res=some xs/\sN h S N (outs bs' es)=true/\gX h S N (outs bs' es) S/\qx (outs bs' es) N/\rv h S N r (lF xs)
def IV (res:List fP) (r:AV) (bs':List (List AV)) (es:List Ob):Exit->St->Prop
 | .normal,s=>Fin res r bs' es s.t s.h
 | .ret,s=>Fin res r bs' es s.t s.h
 |_,_=>False
theorem Fn.jT {P:Program} {f:FuncId} {sc:SCode} {res:List fP} {nt:Nat} (hok:jc P f sc res nt) {xs:List AV} {bs:List (List AV)} {r:AV} {bs':List (List AV)} {es:List Ob}
  (hn:xs.length<=nt) (hgo:go P [.code sc] (IV res r bs' es) 8 (sQ 0 xs) (iR 0 bs)):Fn P f xs bs r bs' es:=by
 obtain ⟨⟨fn,c,hf,hnm,hb,hs,hres,hr4,rfl⟩,hoc,hm⟩:=hok
 refine ⟨⟨fn,hf,hnm,by rw [hb];rfl⟩,fun C ρ U w vals hr hU hv=> ?_⟩
 let C1:Ctx:={C with nt:=fn.ntmps}
 have hr1:HR C1 ρ U (iR 0 bs) w:=⟨hr.hp,hr.hd,hr.inj,hr.os,hr.tape,hr.output,hr.size,hr.old,hr.kL,hr.bE,hr.fix⟩
 refine calls_of_wp hf hb (Nk (C:=C1) hm c sc hs hoc _ _ ⟨8,sQ 0 xs,iR 0 bs⟩ _ w ⟨ρ,U,⟨hr1,fun k x hk=> ?_,rfl,?_⟩,fun b hb=>by have:=hU b hb;simp only;omega⟩ hgo fun e s a w' hA hQ=> ?_)
 ·rw [IU] at hk
  simp only [Nat.zero_le,if_true,Nat.sub_zero] at hk
  have hlt:k<vals.size:=by rw [<-hv.1];exact (List.getElem?_eq_some_iff.1 hk).1
  refine ⟨vals[k],?_,hv.2 k x _ hk (Array.getElem?_eq_getElem hlt)⟩
  simp [Array.getElem?_append,hlt]
 ·have:=hv.1
  simp only [Array.size_append,Array.size_replicate]
  show _=fn.ntmps
  omega
 ·have fin:Fin res r bs' es s.t s.h->a.defers=[]/\∃ v,(results fn a.tmps).run P w'= .ok v w'/\∃ v_1 ρ' U',Ending.returned v=Ending.returned v_1/\HR C ρ' U' (outs bs' es) w'/\VR w' (ay C ρ' w') ρ' U' r v_1:=fun hF=>by
   obtain ⟨S,N,ys,h1,h2,h3,h4,h5⟩:=hF
   obtain ⟨ρ1,U1,hS,_⟩:=hA
   obtain ⟨vs,h6,h7,h8,h9⟩:=Eb (P:=P) hS.hr hS.tm fn.results.toList res ys hres h1
   refine ⟨hS.defers,_,Bw a.tmps w' rfl h6 hr4 h8,_,bY ρ1 S N,nQ S N,rfl,?_,?_⟩
   ·have:=Ea hS.hr h2 h3 h4
    exact ⟨this.hp,this.hd,this.inj,this.os,this.tape,this.output,this.size,this.old,this.kL,this.bE,this.fix⟩
   ·exact uL hS.hr (Nr (by omega) h9) r h5
  cases e with
  |normal=>exact fin hQ
  |ret=>exact fin hQ
  |exit i=>exact hQ.elim
  |goto l=>exact hQ.elim
  |panic ch=>exact hQ.elim
  |outgrown=>exact hQ.elim
end
end Go.Eng
namespace Go.Eng
open Go
def uP (h:List (Nat×Ob)) (A:List Nat):List Nat->List (List AV)->Prop
 |[],[]=>True
 |b::B,cs::bs=>(match get h b with
  |some (.box cs')=>jS A cs cs'
  |_=>False)/\uP h A B bs
 |_,_=>False
def wX (A:List Nat):List (List AV)->List (List AV)->Prop
 |[],[]=>True
 |x::l,y::l'=>jS A x y/\wX A l l'
 |_,_=>False
theorem IW {A:List Nat}:∀ (xs ys:List (List AV)),wX A xs ys->xs.length=ys.length/\∀ (i:Nat) (y:List AV),ys[i]? =some y->∃ x,xs[i]? =some x/\jS A x y
 |[],[],_=>⟨rfl,fun i b h=>by simp at h⟩
 |x::xs,y::ys,h=>by
  simp only [wX] at h
  obtain ⟨h1,h2⟩:=IW xs ys h.2
  refine ⟨by simp [h1],fun i c hc=> ?_⟩
  cases i with
  |zero=>simp at hc;subst hc;exact ⟨x,rfl,h.1⟩
  |succ i=>simpa using h2 i c (by simpa using hc)
 |[],_::_,h=>by simp [wX] at h
 |_::_,[],h=>by simp [wX] at h
def Nz:List (List AV)->Bool
 |[]=>true
 |cs::l=>fB cs&&Nz l
theorem NA {h:List (Nat×Ob)} {A:List Nat}:∀ (B:List Nat) (bs:List (List AV)),uP h A B bs->B.length=bs.length/\∀ (i b:Nat),B[i]? =some b->∃ cs cs',bs[i]? =some cs/\get h b=some (.box cs')/\jS A cs cs'
 |[],[],_=>⟨rfl,fun i b h=>by simp at h⟩
 |b::B,cs::bs,h=>by
  simp only [uP] at h
  obtain ⟨h1,h2⟩:=NA B bs h.2
  refine ⟨by simp [h1],fun i c hc=> ?_⟩
  cases i with
  |zero=>
   simp at hc;subst hc
   obtain ⟨h3,_⟩:=h
   split at h3
   ·rename_i cs' hg;exact ⟨cs,cs',rfl,hg,h3⟩
   ·exact h3.elim
  |succ i=>simpa using h2 i c (by simpa using hc)
 |[],_::_,h=>by simp [uP] at h
 |_::_,[],h=>by simp [uP] at h
section
variable {P:Program} {f:FuncId} {xs ys:List AV} {bs bs':List (List AV)} {r:AV} {es:List Ob} {nm:Nat} {h:List (Nat×Ob)} {B:List Nat}
def mF (ρ:Nat->Loc) (B:List Nat) (i:Nat):Loc:=match B[i]? with
 |some b=>ρ b
 |none=> .dead
theorem Fn.uQ (hF:Fn P f xs bs r bs' es) (nm:Nat) (B:List Nat) (cs':List (List AV)) (ha:jS B xs ys) (hb:uP h B B bs) (hB4:B.length<=4) (hnd:B.Nodup) (hlen:bs'.length=B.length) (hp:wX B bs' cs')
  (hes:es.all rowOk=true) (hm:es.length<=8) (hx:dX es.length r=true):
  sw P nm f ys h ⟨sh nm r,fC nm es++gy B cs',B⟩:=by
 intro h' hh' Q hQ
 refine ⟨hF.1,fun C ρ U w vals hr hfr hvl=> ?_⟩
 obtain ⟨hl,hb'⟩:=NA B bs hb
 have hbx:∀ (i b:Nat),B[i]? =some b->∃ cs cs',bs[i]? =some cs/\get h' b=some (.box cs')/\jS B cs cs':=fun i b hib=>by
  obtain ⟨cs,cs',h1,h2,h3⟩:=hb' i b hib
  exact ⟨cs,cs',h1,by rw [hh' b (List.mem_of_getElem? hib)];exact h2,h3⟩
 let C':Ctx:=⟨w,ay C ρ w,(fun g=>∃ b ∈ B,∃ o n,ρ b=Loc.at g o n),(fun i=>(B[i]?).map ρ),0,(fun g hg=>by
   obtain ⟨b,fT,o,n,hl⟩:=hg
   obtain ⟨i,hi⟩:=List.mem_iff_getElem?.1 fT
   exact ⟨i,o,n,by simp [hi,hl]⟩),(fun i l hl=>by
   rcases Nat.lt_or_ge i B.length with h1|h1
   ·omega
   ·simp [List.getElem?_eq_none h1] at hl),(fun _=>False),(fun _ h=>h.elim)⟩
 have hbl:∀ (i b:Nat),B[i]? =some b->mF ρ B i=ρ b:=fun i b hib=>by simp [mF,hib]
 have hown:∀ g,iI (mF ρ B) g->∃ b ∈ B,∃ o n,ρ b= .at g o n:=fun g ⟨i,o,n,hi⟩=>by
  unfold mF at hi
  split at hi
  ·rename_i b hib;exact ⟨b,List.mem_of_getElem? hib,o,n,hi⟩
  ·cases hi
 have hok:∀ g,ay C ρ w g->ay C' (mF ρ B) w g:=fun g hg=>⟨.inl hg,hg.2.1,fun ho=>by
  obtain ⟨b,_,o,n,hb⟩:=hown g ho
  exact hg.2.2 ⟨b,o,n,hb⟩⟩
 have hpure:∀ {x:AV} {u:Value},x.pure=true->VR w (ay C ρ w) ρ U x u->VP w (ay C' (mF ρ B) w) x u:=fun hx hv=>(Nv hv hx).mono hok (fun _ _=>rfl)
 have hr0:HR C' (mF ρ B) (fun i=>i<B.length) (iR 0 bs) w:=by
  refine ⟨fun i o hi=> ?_,fun i hi=> ?_,fun i i' g o n o' n' h1 h2=> ?_,rfl,rfl,rfl,Nat.le_refl _,fun g _ _ _=>rfl,fun g hg=>⟨hg.2.1,fun ⟨b,_,o,n,hb⟩=>hg.2.2 ⟨b,o,n,hb⟩,fun h=>h⟩,
   fun g ho=> ?_,fun i l hi=> ?_⟩
  ·simp only [iR,gY,Nat.zero_le,if_true,Nat.sub_zero,List.getElem?_map] at hi
   have hlt:i<B.length:=by
    rcases Nat.lt_or_ge i B.length with h1|h1
    ·exact h1
    ·rw [List.getElem?_eq_none (by omega)] at hi;cases hi
   refine ⟨hlt,?_⟩
   have hib:B[i]? =some B[i]:=List.getElem?_eq_getElem hlt
   obtain ⟨cs,cs1,h1,h2,h3⟩:=hbx i _ hib
   rw [h1] at hi
   cases hi
   rw [hbl i _ hib]
   obtain ⟨_,g,o,n,e,cells,h4,h5,h6,h7,h8⟩:=hr.hp _ _ h2
   obtain ⟨hal,hag⟩:=Ed cs cs1 h3
   refine ⟨g,o,n,e,cells,h4,h5,h6,by omega,fun j c hj=> ?_⟩
   obtain ⟨y,hy,hxy⟩:=hag j c hj
   obtain ⟨u,hu,hv⟩:=h8 j y hy
   refine ⟨u,hu,?_⟩
   rcases hxy with ⟨k,j',b,rfl,hk,rfl⟩|⟨rfl,hp⟩
   ·obtain ⟨_,a,rfl,had⟩:=hv.qi
    have hlt:k<B.length:=(List.getElem?_eq_some_iff.1 hk).1
    exact .ptr a hlt (by rw [hbl k b hk];exact had)
   ·exact .p (hpure hp hv)
  ·simp only [iR,gY,Nat.zero_le,if_true,Nat.sub_zero,List.getElem?_map] at hi
   have:B[i]? =none:=by
    rcases Nat.lt_or_ge i B.length with h1|h1
    ·rw [List.getElem?_eq_getElem (show i<bs.length by omega)] at hi;cases hi
    ·exact List.getElem?_eq_none h1
   simp [mF,this]
  ·have key:∀ i g o n,mF ρ B i= .at g o n->∃ b,B[i]? =some b/\ρ b= .at g o n:=fun i g o n hi=>by
    unfold mF at hi
    split at hi
    ·rename_i b hib;exact ⟨b,hib,hi⟩
    ·cases hi
   obtain ⟨b,hib,hl1⟩:=key i g o n h1
   obtain ⟨b',ahy,hl2⟩:=key i' g o' n' h2
   have e:=hr.inj b b' g o n o' n' hl1 hl2
   subst e
   obtain ⟨p1,q1⟩:=List.getElem?_eq_some_iff.1 hib
   obtain ⟨p2,q2⟩:=List.getElem?_eq_some_iff.1 ahy
   exact (List.getElem_inj hnd).1 (q1.trans q2.symm)
  ·obtain ⟨b,fT,o,n,hb⟩:=hown g ho
   exact ⟨.inl ⟨b,fT,o,n,hb⟩,(hr.bE g ⟨b,o,n,hb⟩).2⟩
  ·have hlt:i<B.length:=by
    rcases Nat.lt_or_ge i B.length with h1|h1
    ·exact h1
    ·simp [C',List.getElem?_eq_none h1] at hi
   have hib:B[i]? =some B[i]:=List.getElem?_eq_getElem hlt
   obtain ⟨cs,cs1,h1,h2,h3⟩:=hbx i _ hib
   refine ⟨?_,hlt,cs,?_⟩
   ·rw [hbl i _ hib]
    simp only [C',hib,Option.map_some,Option.some.injEq] at hi
    exact hi
   ·simp [iR,gY,h1]
 obtain ⟨hal,hag⟩:=Ed xs ys ha
 have wY:VL w (ay C' (mF ρ B) w) (mF ρ B) (fun i=>i<B.length) xs vals:=by
  refine ⟨by rw [hal];exact hvl.1,fun i x u hi hu=> ?_⟩
  obtain ⟨y,hy,hxy⟩:=hag i x hi
  have hv:=hvl.2 i y u hy hu
  rcases hxy with ⟨k,j,b,rfl,hk,rfl⟩|⟨rfl,hp⟩
  ·obtain ⟨_,a,rfl,had⟩:=hv.qi
   have hlt:k<B.length:=(List.getElem?_eq_some_iff.1 hk).1
   exact .ptr a hlt (by rw [hbl k b hk];exact had)
  ·exact .p (hpure hp hv)
 refine (hF.2 C' (mF ρ B) (fun i=>i<B.length) w vals hr0 (fun b hb=>by omega) wY).mono fun e w' hpost=> ?_
 obtain ⟨v,ρ1,U1,rfl,hr1,hv1⟩:=hpost
 have jw:∀ g,ay C' ρ1 w' g->ay C (gB ρ ρ1 nm es.length) w' g:=fun g hg=>by
  have hno:¬ ∃ i o n,i<es.length/\ρ1 (4+i)= .at g o n:=fun ⟨i,o,n,_,hi⟩=>hg.2.2 ⟨_,o,n,hi⟩
  have hcase:iI (gB ρ ρ1 nm es.length) g->iI ρ g:=fun ⟨k,o,n,hk⟩=>by
   unfold gB at hk
   split at hk
   ·exact absurd ⟨k - nm,o,n,by omega,hk⟩ hno
   ·exact ⟨k,o,n,hk⟩
  refine ⟨?_,hg.2.1,fun ho=> ?_⟩
  ·rcases hg.1 with h1|h1
   ·exact h1.1
   ·right;have:=hr.size;exact .inr (Nat.le_trans this (h1.resolve_left fun h=>h))
  ·have ho':=hcase ho
   rcases hg.1 with h1|h1
   ·exact h1.2.2 ho'
   ·have:=(hr.bE g ho').2
    have h1':w.heap.size<=g:=h1.resolve_left fun h=>h
    omega
 obtain ⟨hR,hkeep⟩:=back (C':=C') (nm:=nm) hr rfl (fun g=>Iff.rfl) (fun i=>rfl) hr1 (fun b hb=>by
  obtain ⟨i,hi⟩:=List.mem_iff_getElem?.1 hb
  obtain ⟨_,cs,_,h2,_⟩:=hbx i b hi
  exact ⟨cs,h2⟩) hlen hB4 hes hm (IW bs' cs' hp).1 (IW bs' cs' hp).2 hfr (fun _ h=>h) (.inl jw)
 refine ⟨v,sh nm r,_,gB ρ ρ1 nm es.length,BD U nm es.length,rfl,hR,?_,hkeep,fun b hb=> ?_,?_⟩
 ·refine VR.sh jw (fun i hi=> ?_) (fun i hi=> .inr ⟨by omega,by omega⟩) hv1 hx
  unfold gB
  rw [if_pos ⟨by omega,by omega⟩]
  congr 2;omega
 ·rcases hb with hb|hb
  ·exact .inl hb
  ·exact .inr ⟨hb.1,by omega⟩
 ·simpa [List.append_assoc] using hQ
mutual
def deep:AV->List Nat
 | .own b _ _ _=>[b]
 | .ptr b _=>[b]
 | .rp b _ _ _=>[b]
 | .mp b=>[b]
 | .agg cs=>sS cs
 | .aT cs=>sS cs
 | .fn _ cs=>sS cs
 |_=>[]
def sS:List AV->List Nat
 |[]=>[]
 |c::cs=>deep c++sS cs
end
mutual
theorem ahz {h h':List (Nat×Ob)} {S:List (Nat×Nat)}:∀ (x y:AV),(∀ b ∈ deep y,get h' b=get h b)->rv h S [] x y->rv h' S [] x y
 | .own ..,y,_,hx=>by unfold rv at hx ⊢;exact hx
 | .ptr ..,y,_,hx=>by unfold rv at hx ⊢;exact hx
 | .rp ..,y,_,hx=>by unfold rv at hx ⊢;exact hx
 | .mp ..,y,_,hx=>by unfold rv at hx ⊢;exact hx
 | .v _,y,_,hx=>by unfold rv at hx ⊢;exact hx
 | .sl sz ys,y,hh,hx=>by
  cases y with
  |own b sz' off len=>
   simp only [deep,List.mem_singleton,forall_eq] at hh
   simp only [rv,hh] at hx ⊢;exact hx
  |v a=>
   unfold rv at hx ⊢
   split at hx
   ·rename_i e;cases e
   ·rename_i e;cases e;exact hx
   ·rename_i e;cases e
   ·exact hx.elim
  |_=>simp only [rv] at hx ⊢<;>exact hx
 | .bW cs j,y,hh,hx=>by
  cases y with
  |rp b sz i j'=>
   simp only [deep,List.mem_singleton,forall_eq] at hh
   simp only [rv,hh] at hx ⊢;exact hx
  |_=>simp only [rv] at hx ⊢<;>exact hx
 | .agg ys,y,hh,hx=>by
  cases y<;>unfold rv at hx ⊢<;>try exact hx
  exact BF ys _ (by simpa only [deep] using hh) hx
 | .aT ys,y,hh,hx=>by
  cases y<;>unfold rv at hx ⊢<;>try exact hx
  exact BF ys _ (by simpa only [deep] using hh) hx
 | .fn f ys,y,hh,hx=>by
  cases y<;>unfold rv at hx ⊢<;>try exact hx
  exact ⟨hx.1,BF ys _ (by simpa only [deep] using hh) hx.2⟩
theorem BF {h h':List (Nat×Ob)} {S:List (Nat×Nat)}:∀ (xs ys:List AV),(∀ b ∈ sS ys,get h' b=get h b)->aN h S [] xs ys->aN h' S [] xs ys
 |[],[],_,_=>by simp only [aN]
 |x::xs,y::ys,hh,hx=>by
  simp only [aN] at hx ⊢
  simp only [sS,List.mem_append] at hh
  exact ⟨ahz x y (fun b hb=>hh b (.inl hb)) hx.1,BF xs ys (fun b hb=>hh b (.inr hb)) hx.2⟩
 |[],_::_,_,hx=>by simp only [aN] at hx
 |_::_,[],_,hx=>by simp only [aN] at hx
end
theorem ahA {C:Ctx} {ρ:Nat->Loc} {U:Nat->Prop} {w:World} {vals:Array Value} (hr:HR C ρ U h w) (hv:VL w (ay C ρ w) ρ U ys vals) (hx:aN h [] [] xs ys):
  VL w (ay C (bY ρ [] []) w) (bY ρ [] []) (nQ [] []) xs vals:=by
 have hl:=iP _ _ hx
 refine ⟨by rw [hl];exact hv.1,fun i x u hi hu=> ?_⟩
 obtain ⟨y,hy,hxy⟩:=iQ _ _ hx i x hi
 exact uL hr (hv.2 i y u hy hu) x hxy
theorem Fn.IX (hF:Fn P f xs [] r [] es) (nm:Nat) (ha:aN h [] [] xs ys) (hes:es.all rowOk=true) (hna:∀ o ∈ es,sO o) (hm:es.length<=8) (hx:dX es.length r=true) (hr0:na r=true):
  sw P nm f ys h ⟨sh nm r,fC nm es,sS ys⟩:=by
 intro h' hh' Q hQ
 refine ⟨hF.1,fun C ρ U w vals hr hfr hvl=> ?_⟩
 have ha':=BF xs ys hh' ha
 have hd:∀ g,¬ iI (bY ρ [] []) g:=fun g ⟨k,o,n,hk⟩=>by simp [bY,get] at hk
 let C':Ctx:=⟨w,ay C (bY ρ [] []) w,(fun _=>False),(fun _=>none),0,(fun g hg=>hg.elim),(fun i l hl=>by cases hl),(fun _=>False),(fun _ h=>h.elim)⟩
 have hok:∀ g,ay C (bY ρ [] []) w g->ay C' (bY ρ [] []) w g:=fun g hg=>⟨.inl hg,hg.2.1,hg.2.2⟩
 have hrc:HR C' (bY ρ [] []) (nQ [] []) (iR 0 []) w:=by
  refine ⟨fun i o hi=>by simp [iR,fC,get] at hi,fun i _=>by simp [bY,get],fun i i' g o n o' n' h1 _=>absurd ⟨i,o,n,h1⟩ (hd g),rfl,rfl,rfl,Nat.le_refl _,
   fun g _ _ _=>rfl,fun g hg=>⟨hg.2.1,fun h=>h.elim,fun h=>h⟩,fun g ho=>absurd ho (hd g),fun i l hi=>by cases hi⟩
 have wY:=ahA hr hvl ha'
 have ahB:VL w (ay C' (bY ρ [] []) w) (bY ρ [] []) (nQ [] []) xs vals:=wY.mono hok (fun _ _=>rfl) (fun _ h=>h) (fun _ _=> .inl rfl)
 refine (hF.2 C' _ _ w vals hrc (fun b hb=>by simp [nQ] at hb) ahB).mono fun e w' hpost=> ?_
 obtain ⟨v,ρ1,U1,rfl,hr1,hv1⟩:=hpost
 obtain ⟨hR,hkeep⟩:=back (C':=C') (B:=[]) (nm:=nm) hr rfl (fun g=>by simp [C']) (fun i=>by simp [C']) hr1 (fun b hb=>by simp at hb) rfl (by simp) hes hm (cs:=[]) rfl (fun i cs h=>by simp at h) hfr (fun _ h=>h) (.inr ⟨rfl,hna⟩)
 refine ⟨v,sh nm r,_,gB ρ ρ1 nm es.length,BD U nm es.length,rfl,hR,?_,hkeep,fun b hb=> ?_,?_⟩
 ·refine VR.afy (fun i hi=> ?_) (fun i hi=> .inr ⟨by omega,by omega⟩) hv1 hx hr0
  unfold gB
  rw [if_pos ⟨by omega,by omega⟩]
  congr 2;omega
 ·rcases hb with hb|hb
  ·exact .inl hb
  ·exact .inr ⟨hb.1,by omega⟩
 ·simpa [gy] using hQ
mutual
theorem NC {S:List (Nat×Nat)} {N:List Nat}:∀ (x:AV),x.pure=true->rv h S N x x
 | .v a,_=>by simp only [rv]
 | .sl sz xs,_=>by simp only [rv,and_self]
 | .bW cs j,_=>by simp only [rv,and_self]
 | .agg cs,hx=>by simp only [rv];exact BG cs (by simpa only [AV.pure] using hx)
 | .aT cs,hx=>by simp only [rv];exact BG cs (by simpa only [AV.pure] using hx)
 | .fn f cs,hx=>by simp only [rv,true_and];exact BG cs (by simpa only [AV.pure] using hx)
 | .own ..,hx=>by simp [AV.pure] at hx
 | .ptr ..,hx=>by simp [AV.pure] at hx
 | .rp ..,hx=>by simp [AV.pure] at hx
 | .mp ..,hx=>by simp [AV.pure] at hx
theorem BG {S:List (Nat×Nat)} {N:List Nat}:∀ (xs:List AV),fB xs=true->aN h S N xs xs
 |[],_=>by simp only [aN]
 |x::xs,hx=>by
  simp only [fB,Bool.and_eq_true] at hx
  simp only [aN]
  exact ⟨NC x hx.1,BG xs hx.2⟩
end
theorem ahC {S:List (Nat×Nat)} {N:List Nat} {x y:AV} (he:x=y) (hp:y.pure=true):rv h S N x y:=he▸NC _ (he▸hp)
theorem Fin.aK {res:List fP} {r:AV} {t:List (Nat×AV)} (xs:List AV) (h1:oU t h res=some xs) (h2:sN h [] [] []=true) (h3:rv h [] [] r (lF xs)):Fin res r [] [] t h:=
 ⟨[],[],xs,h1,h2,by simp only [gX],by simp only [qx],h3⟩
theorem Fin.gD {res:List fP} {r:AV} {t:List (Nat×AV)} (xs:List AV) (h1:oU t h res=some xs) (h2:sN h [] [] []=true) (h3:(lF xs).pure=true) (h4:r=lF xs):Fin res r [] [] t h:=
 Fin.aK xs h1 h2 (ahC h4 h3)
theorem ND (nm:Nat):∀ (x:AV),x.pure=true->sh nm x=x:=by
 intro x
 refine AV.rec (motive_1:=fun x=>x.pure=true->sh nm x=x) (motive_2:=fun xs=>fB xs=true->lG nm xs=xs) (motive_3:=fun _=>True)
  ?_ ?_ ?_ ?_ ?_ ?_ ?_ ?_ ?_ ?_ ?_ ?_ ?_ ?_ x
 ·intro v _;simp only [sh]
 ·intro cs ih hx;simp only [sh];rw [ih (by simpa only [AV.pure] using hx)]
 ·intro cs ih hx;simp only [sh];rw [ih (by simpa only [AV.pure] using hx)]
 ·intro sz xs _ _;simp only [sh]
 ·intro b sz off len hx;simp [AV.pure] at hx
 ·intro b j hx;simp [AV.pure] at hx
 ·intro b sz k j hx;simp [AV.pure] at hx
 ·intro cs j _ _;simp only [sh]
 ·intro b hx;simp [AV.pure] at hx
 ·intro f cs ih hx;simp only [sh];rw [ih (by simpa only [AV.pure] using hx)]
 ·intro _;simp only [lG]
 ·intro c cs ih1 ih2 hx
  simp only [fB,Bool.and_eq_true] at hx
  simp only [lG];rw [ih1 hx.1,ih2 hx.2]
 ·trivial
 ·intros;trivial
mutual
theorem IY {m:Nat}:∀ (x:AV),x.pure=true->dX m x=true
 | .v a,_=>by simp only [dX]
 | .sl sz xs,_=>by simp only [dX]
 | .bW cs j,_=>by simp only [dX]
 | .agg cs,hx=>by simp only [dX];exact Ee cs (by simpa only [AV.pure] using hx)
 | .aT cs,hx=>by simp only [dX];exact Ee cs (by simpa only [AV.pure] using hx)
 | .fn f cs,hx=>by simp only [dX];exact Ee cs (by simpa only [AV.pure] using hx)
 | .own ..,hx=>by simp [AV.pure] at hx
 | .ptr ..,hx=>by simp [AV.pure] at hx
 | .rp ..,hx=>by simp [AV.pure] at hx
 | .mp ..,hx=>by simp [AV.pure] at hx
theorem Ee {m:Nat}:∀ (xs:List AV),fB xs=true->kQ m xs=true
 |[],_=>by simp only [kQ]
 |x::xs,hx=>by
  simp only [fB,Bool.and_eq_true] at hx
  simp only [kQ,Bool.and_eq_true]
  exact ⟨IY x hx.1,Ee xs hx.2⟩
end
theorem NE {A:List Nat}:∀ (xs:List AV),fB xs=true->jS A xs xs
 |[],_=>by simp only [jS]
 |x::xs,hx=>by
  simp only [fB,Bool.and_eq_true] at hx
  simp only [jS]
  refine ⟨?_,NE xs hx.2⟩
  split
  ·simp [AV.pure] at hx
  ·exact ⟨rfl,hx.1⟩
theorem Fn.NF (hF:Fn P f xs [] r [] []) (hp:fB xs=true) (hr:r.pure=true):sw P nm f xs h ⟨r,[],[]⟩:=by
 have:=hF.uQ (h:=h) nm [] [] (NE xs hp) (by simp only [uP]) (by simp) (by simp) rfl (by simp only [wX]) rfl (by simp) (IY r hr)
 rw [ND nm r hr] at this
 exact this
theorem Fn.ahD (hF:Fn P f xs [] r [] []) (ha:aN h [] [] xs ys) (hr:r.pure=true) (hn:na r=true):sw P nm f ys h ⟨r,[],sS ys⟩:=by
 have:=hF.IX (h:=h) nm ha rfl (by simp) (by simp) (IY r hr) hn
 rw [ND nm r hr] at this
 exact this
theorem jU {k:List It} {Q:Exit->St->Prop} {n n':Nat} {t:List (Nat×AV)} {d:Option Nat} {l:List SOper} (hF:Fn P f xs [] r [] []) (hp:fB xs=true) (hr:r.pure=true)
 (hk:go P (.ops (nm+8) n' l::k) Q n (aZ t d r) h):wW P nm f xs d n' l k Q n t h:=IL (hF.NF hp hr) hk
theorem Ef {k:List It} {Q:Exit->St->Prop} {n n':Nat} {t:List (Nat×AV)} {d:Option Nat} {l ops:List SOper} {acc:List aR} (hF:Fn P f xs [] r [] []) (hp:fB xs=true) (hr:r.pure=true)
 (hk:go P (.aS (nm+8) n' l ops (([],[])::acc)::k) Q n (aZ t d r) h):BB P nm f xs d n' l ops acc k Q n t h:=ahw (hF.NF hp hr) hk
end
end Go.Eng
namespace Go.Eng
open Go
theorem ahE (x:Value):(AV.v x).one=x.oneCell':=rfl
theorem ahF (cs:List AV):(AV.agg cs).one=false:=rfl
theorem ahG (cs:List AV):(AV.aT cs).one=false:=rfl
theorem ahH (sz:Nat) (xs:List (List AV)):(AV.sl sz xs).one=true:=rfl
theorem ahI (b sz off len:Nat):(AV.own b sz off len).one=true:=rfl
theorem ahJ (b j:Nat):(AV.ptr b j).one=true:=rfl
theorem ahK (b sz k j:Nat):(AV.rp b sz k j).one=true:=rfl
theorem ahL (cs:List AV) (j:Nat):(AV.bW cs j).one=true:=rfl
theorem ahM (b:Nat):(AV.mp b).one=true:=rfl
theorem ahN (f:FuncId) (cs:List AV):(AV.fn f cs).one=true:=rfl
attribute [go_sem] ahE ahF ahG ahH ahI ahJ ahK ahL ahM ahN
attribute [go_sem] afz IJ go_skip afA go_ret afB afC afD
attribute [go_sem] afE afF afG Nu go_region afH afI afJ
attribute [go_sem] afK afL afM afN afO afP afQ afR
attribute [go_sem] afS afT afU afV afW afX afY afZ
attribute [go_sem] af0 af2 af3 af4 af5 af6 af7 af8
attribute [go_sem] af9 aga agb agc agd agf agh agi
attribute [go_sem] agj agk agl agm agn agp agq agr ags
attribute [go_sem] agt go_call agu agv agw agx agy agz
attribute [go_sem] agA agB agC agD agE agF agG agH
attribute [go_sem] agI agJ agK agL agM agN agO agP
attribute [go_sem] agQ agR agS agT agU agV agW agX
attribute [go_sem] agY agZ ag0 ag1 ag2 ag6 ag7 ag8
attribute [go_sem] aha ahb ahc ahd ahe ahf ahg ahh ahi
attribute [go_sem] ahj ahk ahl ahm ahn aho ahp ahq
attribute [go_sem] ahr ahs aht ahu ahv
attribute [go_sem] av ev kN get E.ok aZ nN qj
attribute [go_sem] Value.oneCell' bP nO yC r9 si ql l8 l7 su Dz sj bQ Dy A9 oO
attribute [go_sem] splice l6 fB AV.pure kP uw wE bound
attribute [go_sem] bytesOf uq wD bR bX AV.iK sQ iR
attribute [go_sem] fC gy oU lF sh lG IV aN
attribute [go_sem] outs wR jS uP Nz uK gX qx
attribute [go_sem] cO dX kQ na nS rowOk deep sS
attribute [go_sem] get_nil
attribute [go_sem] true_and and_true List.append_nil List.nil_append List.cons_append List.length_cons List.length_nil List.map_cons
attribute [go_sem] List.map_nil Bool.and_true Bool.and_self Bool.not_true Bool.not_false Bool.false_eq_true Bool.true_and List.getElem?_cons_zero
attribute [go_sem] List.getElem?_cons_succ Nat.succ_eq_add_one Nat.zero_add Nat.add_zero List.take_zero List.drop_zero List.take_succ_cons List.drop_succ_cons
attribute [go_sem] List.take_nil List.drop_nil
end Go.Eng
namespace Go.Eng
open Go Go.RowKit
def Arg (w:World) (x:AV) (u:Value):Prop:=VP w (fun g=>g<w.heap.size) x u
end Go.Eng
namespace Go.Eng
open Go
def kills (Z:List Nat):List (Nat×Ob):=Z.map fun k=>(k,Ob.dead)
section
variable {C:Ctx} {ρ:Nat->Loc} {U:Nat->Prop} {h:List (Nat×Ob)} {w:World}
def wZ (ρ:Nat->Loc) (Z:List Nat) (k:Nat):Loc:=if k ∈ Z then .dead else ρ k
theorem HR.kills (hr:HR C ρ U h w):∀ (Z:List Nat),(∀ b ∈ Z,∃ e sz xs,get h b=some (.row e sz xs))->∃ U',(∀ k,U' k->U k)/\(∀ k,U k->U' k)/\HR C (wZ ρ Z) U' (kills Z++h) w
 |[],_=>⟨U,fun _ h=>h,fun _ h=>h,by
  have:wZ ρ []=ρ:=by funext k;simp [wZ]
  rw [this];exact hr⟩
 |b::Z,hz=>by
  obtain ⟨U',h1,h2,h3⟩:=HR.kills hr Z fun b hb=>hz b (List.mem_cons_of_mem _ hb)
  obtain ⟨e,sz,xs,hb⟩:=hz b (List.mem_cons_self ..)
  have hub:U b:=(hr.hp b _ hb).1
  have hnb:∀ cs,get (Go.Eng.kills Z++h) b≠some (.box cs):=by
   intro cs hg
   rw [get_append] at hg
   cases hk:get (Go.Eng.kills Z) b with
   |none=>rw [hk] at hg;simp only at hg;rw [hb] at hg;cases hg
   |some o=>
    rw [hk] at hg
    simp only [Option.some.injEq] at hg
    subst hg
    have:=get_mem hk
    simp [Go.Eng.kills] at this
  have hm:Moved C (wZ ρ Z) U' (Go.Eng.kills Z++h) w b .dead w:=⟨rfl,rfl,rfl,Nat.le_refl _,fun _ _ _=>rfl,.inr (.inl ⟨h2 _ hub,rfl,hnb⟩)⟩
  have:=hm.hr h3 (ob:= .dead) (fun ⟨cs,hc⟩=>(hnb cs hc).elim) rfl
  refine ⟨fV U' b,fun k hk=> ?_,fun k hk=> .inl (h2 k hk),?_⟩
  ·rcases hk with hk|rfl
   ·exact h1 k hk
   ·exact hub
  ·have e:wZ ρ (b::Z)=up (wZ ρ Z) b .dead:=by
    funext k
    simp only [wZ,up,List.mem_cons]
    by_cases e:k=b
    ·simp [e]
    ·simp [e]
   rw [e];exact this
end
end Go.Eng
namespace Go.Eng
open Go
theorem Arg.val (w:World) (u:Value):Arg w (.v u) u:= .v u
theorem Arg.nil (w:World) (sz:Nat):Arg w (.sl sz []) (.slice none 0 0):= .fO
end Go.Eng
namespace Go.Eng
open Go
theorem VR.rn {w w':World} {ok ok':Nat->Prop} {ρ ρ':Nat->Loc} {U U':Nat->Prop} {S:List (Nat×Nat)} (hS:∀ k b,get S k=some b->U' k/\ρ' k=ρ b) (hok:∀ g,ok g->ok' g)
  (hw:∀ g,ok g->w'.heap[g]? =w.heap[g]?) {y:AV} {u:Value} (h:VR w ok ρ U y u):∀ x,rv [] S [] x y->VR w' ok' ρ' U' x u:=by
 have kp:∀ {y:AV} {u:Value},VP w ok y u->∀ x,rv [] S [] x y->VR w' ok' ρ' U' x u:=fun h=>by
  induction h with
  |v a=>
   intro x hx
   cases x with
   |v b=>simp only [rv] at hx;cases hx;exact .p (.v _)
   |sl sz ys=>
    unfold rv at hx
    split at hx
    ·rename_i e;cases e
    ·rename_i e;cases e;subst hx;exact .p .fO
    ·rename_i e;cases e
    ·exact hx.elim
   |own k sz off len=>
    unfold rv at hx
    split at hx
    ·rename_i e;cases e
    ·simp at hx
    ·exact hx.elim
   |_=>simp only [rv] at hx
  |agg hl hc ih=>
   intro x hx
   cases x<;>simp only [rv] at hx<;>try (cases hx;done)
   have h1:=iP _ _ hx
   refine .agg (by omega) fun i c u hi hu=> ?_
   obtain ⟨z,h2,h3⟩:=iQ _ _ hx i c hi
   exact ih i z u h2 hu c h3
  |aT hl hc ih=>
   intro x hx
   cases x<;>simp only [rv] at hx<;>try (cases hx;done)
   have h1:=iP _ _ hx
   refine .aT (by omega) fun i c u hi hu=> ?_
   obtain ⟨z,h2,h3⟩:=iQ _ _ hx i c hi
   exact ih i z u h2 hu c h3
  |fn hf hl hc ih=>
   intro x hx
   cases x<;>simp only [rv] at hx<;>try (cases hx;done)
   obtain ⟨rfl,hx⟩:=hx
   have h1:=iP _ _ hx
   refine .fn hf (by omega) fun i c u hi hu=> ?_
   obtain ⟨z,h2,h3⟩:=iQ _ _ hx i c hi
   exact ih i z u h2 hu c h3
  |kZ h hc ih=>
   intro x hx
   cases x<;>simp only [rv] at hx<;>try (cases hx;done)
   obtain ⟨rfl,hx⟩:=hx
   rename_i ys
   match ys,hx with
   |[y],hx=>
    simp only [aN,and_true] at hx
    have h2:=ih y hx
    cases y<;>simp only [rv] at hx<;>try (cases hx;done)
    obtain ⟨rfl,rfl⟩:=hx
    exact .p (.kZ h2.rY hc)
   |[],hx=>simp only [aN] at hx
   |_::_::_,hx=>simp only [aN,and_false] at hx
  |fO=>
   intro x hx
   cases x<;>simp only [rv] at hx<;>try (cases hx;done)
   obtain ⟨rfl,rfl⟩:=hx
   exact .p .fO
  |sl a n cap f hn hcap hk hl hc hv ih=>
   intro x hx
   cases x<;>simp only [rv] at hx<;>try (cases hx;done)
   obtain ⟨rfl,rfl⟩:=hx
   exact .p ((VP.sl a n cap f hn hcap hk hl hc hv).mono hok hw)
  |bW g o f hk hc hv ih=>
   intro x hx
   cases x<;>simp only [rv] at hx<;>try (cases hx;done)
   obtain ⟨rfl,rfl⟩:=hx
   exact .p ((VP.bW g o f hk hc hv).mono hok hw)
 induction h with
 |p h=>exact kp h
 |agg hl hc ih=>
  intro x hx
  cases x<;>simp only [rv] at hx<;>try (cases hx;done)
  have h1:=iP _ _ hx
  refine .agg (by omega) fun i c u hi hu=> ?_
  obtain ⟨z,h2,h3⟩:=iQ _ _ hx i c hi
  exact ih i z u h2 hu c h3
 |aT hl hc ih=>
  intro x hx
  cases x<;>simp only [rv] at hx<;>try (cases hx;done)
  have h1:=iP _ _ hx
  refine .aT (by omega) fun i c u hi hu=> ?_
  obtain ⟨z,h2,h3⟩:=iQ _ _ hx i c hi
  exact ih i z u h2 hu c h3
 |fn hf hl hc ih=>
  intro x hx
  cases x<;>simp only [rv] at hx<;>try (cases hx;done)
  obtain ⟨rfl,hx⟩:=hx
  have h1:=iP _ _ hx
  refine .fn hf (by omega) fun i c u hi hu=> ?_
  obtain ⟨z,h2,h3⟩:=iQ _ _ hx i c hi
  exact ih i z u h2 hu c h3
 |own hu ho=>
  intro x hx
  cases x with
  |own k sz' off' len'=>
   simp only [rv] at hx
   obtain ⟨h1,rfl,rfl,rfl⟩:=hx
   obtain ⟨h2,h3⟩:=hS _ _ h1
   exact .own h2 (by rw [h3];exact ho)
  |sl sz' ys=>simp [rv,get] at hx
  |bW cs j=>simp [rv] at hx
  |_=>simp only [rv] at hx<;>cases hx
 |ptr a hu ha=>
  intro x hx
  cases x with
  |ptr k j=>
   simp only [rv] at hx
   obtain ⟨h1,rfl⟩:=hx
   obtain ⟨h2,h3⟩:=hS _ _ h1
   exact .ptr a h2 (by rw [h3];exact ha)
  |_=>simp only [rv] at hx<;>cases hx
 |rp a hu ha=>
  intro x hx
  cases x with
  |rp k sz i j=>
   simp only [rv] at hx
   obtain ⟨h1,rfl,rfl,rfl⟩:=hx
   obtain ⟨h2,h3⟩:=hS _ _ h1
   exact .rp a h2 (by rw [h3];exact ha)
  |bW cs j=>simp [rv,get] at hx
  |_=>simp only [rv] at hx<;>cases hx
 |mp a hu ha=>
  intro x hx
  cases x with
  |mp k=>
   simp only [rv] at hx
   obtain ⟨h2,h3⟩:=hS _ _ hx
   exact .mp a h2 (by rw [h3];exact ha)
  |_=>simp only [rv] at hx<;>cases hx
theorem dV.rn {w w':World} {ok ok':Nat->Prop} {ρ ρ':Nat->Loc} {U U':Nat->Prop} {S:List (Nat×Nat)} (hS:∀ k b,get S k=some b->U' k/\ρ' k=ρ b) (hok:∀ g,ok g->ok' g)
  (hw:∀ g,ok g->w'.heap[g]? =w.heap[g]?) {l:Loc} (hl:∀ g o n,l= .at g o n->w'.heap[g]? =w.heap[g]?) {x y:Ob} (h:dV w ok ρ U l y) (hx:cO [] S [] x y):dV w' ok' ρ' U' l x:=by
 cases y with
 |box cs=>
  cases x with
  |box ds=>
   simp only [cO] at hx
   obtain ⟨g,o,n,e,cells,h1,h2,h3,h4,h5⟩:=h
   have h6:=iP _ _ hx
   refine ⟨g,o,n,e,cells,h1,(hl g o n h1).trans h2,h3,by omega,fun j c hj=> ?_⟩
   obtain ⟨z,h7,h8⟩:=iQ _ _ hx j c hj
   obtain ⟨u,hu,hv⟩:=h5 j z h7
   exact ⟨u,hu,hv.rn hS hok hw c h8⟩
  |_=>simp only [cO] at hx
 |row e sz xs=>
  cases x with
  |row e' sz' ys=>
   simp only [cO] at hx
   obtain ⟨rfl,rfl,rfl⟩:=hx
   rcases h with h|⟨g,o,n,cells,h1,h2,h3,h4,h5,h6⟩
   ·exact .inl h
   ·refine .inr ⟨g,o,n,cells,h1,(hl g o n h1).trans h2,h3,h4,h5,fun k x j c hk hj=> ?_⟩
    obtain ⟨u,hu,h1c,hv⟩:=h6 k x j c hk hj
    exact ⟨u,hu,h1c,hv.mono hok hw⟩
  |_=>simp only [cO] at hx
 |map es=>
  cases x with
  |map es'=>
   simp only [cO] at hx
   obtain ⟨g,aH,clock,h1,h2,h3,h4⟩:=h
   obtain ⟨hl',IE⟩:=IC _ _ hx
   refine ⟨g,aH,clock,h1,(hl g 0 0 h1).trans h2,by omega,fun i k c m hi he=> ?_⟩
   obtain ⟨z,h7,h8⟩:=IE i k c hi
   exact ⟨(h4 i k z m h7 he).1,(h4 i k z m h7 he).2.rn hS hok hw c h8⟩
  |_=>simp only [cO] at hx
 |dead=>cases x<;>simp only [cO] at hx
def uR (P:Program) (f:FuncId) (xs:List AV) (bs:List (List AV)) (gs:List Ob) (r:AV) (bs':List (List AV)) (es:List Ob):Prop:=
 Enters P f/\∀ (C:Ctx) (ρ:Nat->Loc) (U:Nat->Prop) (w:World) (vals:Array Value),HR C ρ U (outs bs gs) w->(∀ b,U b->b<8)->VL w (ay C ρ w) ρ U xs vals->
  Calls P f vals w fun e w'=>∃ v ρ' U',e= .returned v/\HR C ρ' U' (outs bs' es) w'/\VR w' (ay C ρ' w') ρ' U' r v
theorem uR.jT {P:Program} {f:FuncId} {sc:SCode} {res:List fP} {nt:Nat} (hok:jc P f sc res nt) {xs:List AV} {bs:List (List AV)} {gs:List Ob} {r:AV} {bs':List (List AV)} {es:List Ob}
  (hn:xs.length<=nt) (hgo:go P [.code sc] (IV res r bs' es) 8 (sQ 0 xs) (outs bs gs)):uR P f xs bs gs r bs' es:=by
 obtain ⟨⟨fn,c,hf,hnm,hb,hs,hres,hr4,rfl⟩,hoc,hm⟩:=hok
 refine ⟨⟨fn,hf,hnm,by rw [hb];rfl⟩,fun C ρ U w vals hr hU hv=> ?_⟩
 let C1:Ctx:={C with nt:=fn.ntmps}
 have hr1:HR C1 ρ U (outs bs gs) w:=⟨hr.hp,hr.hd,hr.inj,hr.os,hr.tape,hr.output,hr.size,hr.old,hr.kL,hr.bE,hr.fix⟩
 refine calls_of_wp hf hb (Nk (C:=C1) hm c sc hs hoc _ _ ⟨8,sQ 0 xs,outs bs gs⟩ _ w ⟨ρ,U,⟨hr1,fun k x hk=> ?_,rfl,?_⟩,fun b hb=>hU b hb⟩ hgo fun e s a w' hA hQ=> ?_)
 ·rw [IU] at hk
  simp only [Nat.zero_le,if_true,Nat.sub_zero] at hk
  have hlt:k<vals.size:=by rw [<-hv.1];exact (List.getElem?_eq_some_iff.1 hk).1
  refine ⟨vals[k],?_,hv.2 k x _ hk (Array.getElem?_eq_getElem hlt)⟩
  simp [Array.getElem?_append,hlt]
 ·have:=hv.1
  simp only [Array.size_append,Array.size_replicate]
  show _=fn.ntmps
  omega
 ·have fin:Fin res r bs' es s.t s.h->a.defers=[]/\∃ v,(results fn a.tmps).run P w'= .ok v w'/\∃ v_1 ρ' U',Ending.returned v=Ending.returned v_1/\HR C ρ' U' (outs bs' es) w'/\VR w' (ay C ρ' w') ρ' U' r v_1:=fun hF=>by
   obtain ⟨S,N,ys,h1,h2,h3,h4,h5⟩:=hF
   obtain ⟨ρ1,U1,hS,_⟩:=hA
   obtain ⟨vs,h6,h7,h8,h9⟩:=Eb (P:=P) hS.hr hS.tm fn.results.toList res ys hres h1
   refine ⟨hS.defers,_,Bw a.tmps w' rfl h6 hr4 h8,_,bY ρ1 S N,nQ S N,rfl,?_,?_⟩
   ·have:=Ea hS.hr h2 h3 h4
    exact ⟨this.hp,this.hd,this.inj,this.os,this.tape,this.output,this.size,this.old,this.kL,this.bE,this.fix⟩
   ·exact uL hS.hr (Nr (by omega) h9) r h5
  cases e with
  |normal=>exact fin hQ
  |ret=>exact fin hQ
  |exit i=>exact hQ.elim
  |goto l=>exact hQ.elim
  |panic ch=>exact hQ.elim
  |outgrown=>exact hQ.elim
end Go.Eng
namespace Go.Eng
open Go
def dY (B G:List Nat):List (Nat×Nat):=(List.range B.length).map (fun i=>(i,B[i]?.getD 0))++(List.range G.length).map (fun i=>(4+i,G[i]?.getD 0))
def mG (B:List Nat) (nm m:Nat):List (Nat×Nat):=(List.range B.length).map (fun i=>(B[i]?.getD 0,i))++(List.range m).map (fun i=>(nm+i,4+i))
theorem get_of_mem {α:Type} {l:List (Nat×α)} {k:Nat} {x:α} (hm:(k,x) ∈ l) (hn:(l.map Prod.fst).Nodup):get l k=some x:=by
 induction l with
 |nil=>simp at hm
 |cons p l ih=>
  obtain ⟨j,y⟩:=p
  simp only [List.map_cons,List.nodup_cons] at hn
  simp only [List.mem_cons,Prod.mk.injEq] at hm
  rcases hm with ⟨rfl,rfl⟩|hm
  ·simp [get]
  ·rw [lW]
   ·exact ih hm hn.2
   ·intro e;subst e;exact hn.1 (List.mem_map.2 ⟨_,hm,rfl⟩)
theorem qz {B G:List Nat} {k b:Nat} (h:get (dY B G) k=some b):(B[k]? =some b)\/(4<=k/\G[k - 4]? =some b):=by
 have:=get_mem h
 simp only [dY,List.mem_append,List.mem_map,List.mem_range,Prod.mk.injEq] at this
 rcases this with ⟨i,hi,rfl,rfl⟩|⟨i,hi,rfl,rfl⟩
 ·left;simp [hi]
 ·right;refine ⟨by omega,?_⟩;simp [hi]
theorem BH {B G:List Nat} {k b:Nat} (h:B[k]? =some b) (h4:B.length<=4):get (dY B G) k=some b:=by
 have hk:=(List.getElem?_eq_some_iff.1 h).1
 refine get_of_mem (List.mem_append_left _ (List.mem_map.2 ⟨k,List.mem_range.2 hk,by simp [h]⟩)) ?_
 simp only [dY,List.map_append,List.map_map]
 rw [List.nodup_append]
 refine ⟨?_,?_,?_⟩
 ·have:((fun x:Nat×Nat=>x.1)∘fun i=>(i,B[i]?.getD 0))=id:=rfl
  show (List.map ((fun x:Nat×Nat=>x.1)∘fun i=>(i,B[i]?.getD 0)) _).Nodup
  rw [this,List.map_id];exact List.nodup_range
 ·unfold List.Nodup
  rw [List.pairwise_map]
  exact List.Pairwise.imp (fun h e=>h (by simp only [Function.comp] at e;omega)) List.nodup_range
 ·intro a ha b hb
  simp only [List.mem_map,List.mem_range,Function.comp] at ha hb
  obtain ⟨i,hi,rfl⟩:=ha
  obtain ⟨j,hj,rfl⟩:=hb
  omega
theorem ahO {B G:List Nat} {i b:Nat} (h:G[i]? =some b) (h4:B.length<=4):get (dY B G) (4+i)=some b:=by
 have hk:=(List.getElem?_eq_some_iff.1 h).1
 refine get_of_mem (List.mem_append_right _ (List.mem_map.2 ⟨i,List.mem_range.2 hk,by simp [h]⟩)) ?_
 simp only [dY,List.map_append,List.map_map]
 rw [List.nodup_append]
 refine ⟨?_,?_,?_⟩
 ·have:((fun x:Nat×Nat=>x.1)∘fun i=>(i,B[i]?.getD 0))=id:=rfl
  show (List.map ((fun x:Nat×Nat=>x.1)∘fun i=>(i,B[i]?.getD 0)) _).Nodup
  rw [this,List.map_id];exact List.nodup_range
 ·unfold List.Nodup
  rw [List.pairwise_map]
  exact List.Pairwise.imp (fun h e=>h (by simp only [Function.comp] at e;omega)) List.nodup_range
 ·intro a ha b hb
  simp only [List.mem_map,List.mem_range,Function.comp] at ha hb
  obtain ⟨i,hi,rfl⟩:=ha
  obtain ⟨j,hj,rfl⟩:=hb
  omega
theorem NG {B:List Nat} {nm m k i:Nat} (h:get (mG B nm m) k=some i):(B[i]? =some k)\/(nm<=k/\k<nm+m/\i=4+(k - nm)):=by
 have:=get_mem h
 simp only [mG,List.mem_append,List.mem_map,List.mem_range,Prod.mk.injEq] at this
 rcases this with ⟨j,hj,rfl,rfl⟩|⟨j,hj,rfl,rfl⟩
 ·left;simp [hj]
 ·right;omega
section
variable {P:Program} {f:FuncId} {xs ys:List AV} {bs bs' cs':List (List AV)} {gs es es':List Ob} {r r':AV} {h:List (Nat×Ob)} {B G:List Nat} {nm:Nat} {Q:AV->List (Nat×Ob)->Prop}
def isRow:Ob->Bool
 | .row _ _ _=>true
 |_=>false
theorem Eg:∀ (Z:List Nat) (k:Nat),get (kills Z) k=if k ∈ Z then some .dead else none
 |[],k=>by simp [kills,get]
 |z::Z,k=>by
  have ih:=Eg Z k
  simp only [kills,List.map_cons,get] at ih ⊢
  by_cases e:z=k
  ·subst e;simp
  ·rw [if_neg e,ih]
   have:(k ∈ z::Z)=(k ∈ Z):=by simp only [List.mem_cons,eq_iff_iff];exact ⟨fun h=>h.resolve_left fun h=>e h.symm,.inr⟩
   simp only [this]
theorem uR.call (hF:uR P f xs bs gs r bs' es) (ha:aN [] (dY B G) [] xs ys)
  (hbl:bs.length=B.length) (hgl:gs.length=G.length) (hB4:B.length<=4) (hG4:G.length<=4) (hnd:(B++G).Nodup)
  (hb:∀ (i b:Nat),B[i]? =some b->∃ cs cs0,bs[i]? =some cs/\get h b=some (.box cs0)/\aN [] (dY B G) [] cs cs0)
  (hg:∀ (i b:Nat),G[i]? =some b->∃ o,gs[i]? =some o/\get h b=some o/\isRow o=true)
  (ahP:bs'.length=B.length) (hcl':cs'.length=B.length) (hb':∀ (i:Nat) (c:List AV),cs'[i]? =some c->∃ x,bs'[i]? =some x/\aN [] (mG B nm es.length) [] c x)
  (hel:es'.length=es.length) (hm:es.length<=8) (he:∀ (i:Nat) (y:Ob),es'[i]? =some y->∃ x,es[i]? =some x/\cO [] (mG B nm es.length) [] y x)
  (hr':rv [] (mG B nm es.length) [] r' r) (hQ:Q r' (fC nm es'++(gy B cs'++(kills G++h)))):AY P nm f ys h Q:=by
 refine ⟨hF.1,fun C ρ U w vals hr hfr hvl=> ?_⟩
 rw [List.nodup_append] at hnd
 obtain ⟨IZ,ahQ,ahR⟩:=hnd
 have hBG:∀ b,b ∈ B->b ∈ G->False:=fun b h1 h2=>ahR b h1 b h2 rfl
 have sU:∀ b ∈ B,U b/\∃ cs0,get h b=some (.box cs0):=fun b fT=>by
  obtain ⟨i,hi⟩:=List.mem_iff_getElem?.1 fT
  obtain ⟨cs,cs0,_,h2,_⟩:=hb i b hi
  exact ⟨(hr.hp b _ h2).1,cs0,h2⟩
 have Eh:∀ b ∈ G,U b/\∃ o,get h b=some o/\isRow o=true:=fun b jd=>by
  obtain ⟨i,hi⟩:=List.mem_iff_getElem?.1 jd
  obtain ⟨o,_,h2,h3⟩:=hg i b hi
  exact ⟨(hr.hp b _ h2).1,o,h2,h3⟩
 let C':Ctx:=⟨w,ay C ρ w,(fun g=>∃ b ∈ B,∃ o n,ρ b=Loc.at g o n),(fun i=>(B[i]?).map ρ),0,(fun g hg=>by
   obtain ⟨b,fT,o,n,hl⟩:=hg
   obtain ⟨i,hi⟩:=List.mem_iff_getElem?.1 fT
   exact ⟨i,o,n,by simp [hi,hl]⟩),(fun i l hl=>by
   rcases Nat.lt_or_ge i B.length with h1|h1
   ·omega
   ·simp [List.getElem?_eq_none h1] at hl),(fun g=>∃ b ∈ G,∃ o n,ρ b=Loc.at g o n),(fun g ⟨b,jd,o,n,hl⟩ ⟨b',fT,o',n',hl'⟩=>by
   have:=hr.inj b b' g o n o' n' hl hl'
   subst this
   exact hBG b fT jd)⟩
 let ρc:Nat->Loc:=fun k=>match get (dY B G) k with|some b=>ρ b|none=> .dead
 let Uc:Nat->Prop:=fun k=>∃ b,get (dY B G) k=some b
 have oV:∀ k b,get (dY B G) k=some b->ρc k=ρ b:=fun k b hk=>by show (match get (dY B G) k with|some b=>ρ b|none=> .dead)=ρ b;rw [hk]
 have sV:∀ k g o n,ρc k= .at g o n->∃ b,get (dY B G) k=some b/\ρ b= .at g o n:=fun k g o n hk=>by
  cases hs:get (dY B G) k with
  |none=>
   have:ρc k= .dead:=by show (match get (dY B G) k with|some b=>ρ b|none=> .dead)=_;rw [hs]
   rw [this] at hk;cases hk
  |some b=>exact ⟨b,rfl,by rw [<-oV k b hs];exact hk⟩
 have hown0:∀ g,iI ρc g->iI ρ g:=fun g ⟨k,o,n,hk⟩=>by
  obtain ⟨b,_,hb⟩:=sV k g o n hk
  exact ⟨b,o,n,hb⟩
 have hok:∀ g,ay C ρ w g->ay C' ρc w g:=fun g hg=>⟨.inl hg,hg.2.1,fun ho=>hg.2.2 (hown0 g ho)⟩
 have BI:∀ k b,get (dY B G) k=some b->Uc k/\ρc k=ρ b:=fun k b hk=>⟨⟨b,hk⟩,oV k b hk⟩
 have I4:∀ k,Uc k->k<8:=fun k ⟨b,hk⟩=>by
  rcases qz hk with h1|⟨h1,h2⟩
  ·have:=(List.getElem?_eq_some_iff.1 h1).1;omega
  ·have:=(List.getElem?_eq_some_iff.1 h2).1;omega
 have ahS:∀ k,k ∈ G->¬ (nm<=k/\k<nm+8):=fun k hk=>hfr k (Eh k hk).1
 have hr0:HR C' ρc Uc (outs bs gs) w:=by
  refine ⟨fun k o hk=> ?_,fun k hk=> ?_,fun k k' g o n o' n' h1 h2=> ?_,rfl,rfl,rfl,Nat.le_refl _,fun g _ _ _=>rfl,
   fun g hg=>⟨hg.2.1,fun ⟨b,_,o,n,hb⟩=>hg.2.2 ⟨b,o,n,hb⟩,fun ⟨b,_,o,n,hb⟩=>hg.2.2 ⟨b,o,n,hb⟩⟩,fun g ho=> ?_,fun i l hi=> ?_⟩
  ·unfold outs at hk
   rw [get_append,iR,gY] at hk
   simp only [Nat.zero_le,if_true,Nat.sub_zero,List.getElem?_map] at hk
   cases hbk:bs[k]? with
   |some cs=>
    rw [hbk] at hk
    simp only [Option.map_some,Option.some.injEq] at hk
    subst hk
    have hlt:k<B.length:=by rw [<-hbl];exact (List.getElem?_eq_some_iff.1 hbk).1
    have hib:B[k]? =some B[k]:=List.getElem?_eq_getElem hlt
    obtain ⟨cs1,cs0,h1,h2,h3⟩:=hb k _ hib
    rw [hbk] at h1;cases h1
    have hs:=BH (G:=G) hib hB4
    refine ⟨⟨_,hs⟩,?_⟩
    rw [oV k _ hs]
    exact (hr.hp _ _ h2).2.rn BI hok (fun _ _=>rfl) (fun _ _ _ _=>rfl) (by simp only [cO];exact h3)
   |none=>
    rw [hbk] at hk
    simp only [Option.map_none] at hk
    rw [gY] at hk
    split at hk
    ·rename_i h4
     have hlt:k - 4<G.length:=by rw [<-hgl];exact (List.getElem?_eq_some_iff.1 hk).1
     have hib:G[k - 4]? =some G[k - 4]:=List.getElem?_eq_getElem hlt
     obtain ⟨o1,h1,h2,h3⟩:=hg (k - 4) _ hib
     rw [hk] at h1;cases h1
     have hs:=ahO (B:=B) hib hB4
     rw [show 4+(k - 4)=k by omega] at hs
     refine ⟨⟨_,hs⟩,?_⟩
     rw [oV k _ hs]
     refine (hr.hp _ _ h2).2.rn BI hok (fun _ _=>rfl) (fun _ _ _ _=>rfl) ?_
     cases o with
     |row e sz xs=>simp only [cO,and_self]
     |_=>simp [isRow] at h3
    ·cases hk
  ·cases hs:get (dY B G) k with
   |none=>show (match get (dY B G) k with|some b=>ρ b|none=> .dead)=_;rw [hs]
   |some b=>
    unfold outs at hk
    rw [get_append,iR,gY] at hk
    simp only [Nat.zero_le,if_true,Nat.sub_zero,List.getElem?_map] at hk
    rcases qz hs with h1|⟨h1,h2⟩
    ·have hlt:k<bs.length:=by rw [hbl];exact (List.getElem?_eq_some_iff.1 h1).1
     rw [List.getElem?_eq_getElem hlt] at hk
     simp at hk
    ·have hlt:k - 4<gs.length:=by rw [hgl];exact (List.getElem?_eq_some_iff.1 h2).1
     have:bs[k]? =none:=List.getElem?_eq_none (by omega)
     rw [this] at hk
     simp only [Option.map_none,gY] at hk
     rw [if_pos h1,List.getElem?_eq_getElem hlt] at hk
     cases hk
  ·obtain ⟨b,hs,hl⟩:=sV k g o n h1
   obtain ⟨b',hs',hl'⟩:=sV k' g o' n' h2
   have e:=hr.inj b b' g o n o' n' hl hl'
   subst e
   rcases qz hs with h3|⟨h3,h4⟩<;>rcases qz hs' with h5|⟨h5,h6⟩
   ·obtain ⟨p1,q1⟩:=List.getElem?_eq_some_iff.1 h3
    obtain ⟨p2,q2⟩:=List.getElem?_eq_some_iff.1 h5
    exact (List.getElem_inj IZ).1 (q1.trans q2.symm)
   ·exact (hBG b (List.mem_of_getElem? h3) (List.mem_of_getElem? h6)).elim
   ·exact (hBG b (List.mem_of_getElem? h5) (List.mem_of_getElem? h4)).elim
   ·obtain ⟨p1,q1⟩:=List.getElem?_eq_some_iff.1 h4
    obtain ⟨p2,q2⟩:=List.getElem?_eq_some_iff.1 h6
    have:=(List.getElem_inj ahQ).1 (q1.trans q2.symm)
    omega
  ·obtain ⟨k,o,n,hk⟩:=ho
   obtain ⟨b,hs,hl⟩:=sV k g o n hk
   refine ⟨?_,(hr.bE g ⟨b,o,n,hl⟩).2⟩
   rcases qz hs with h3|⟨h3,h4⟩
   ·exact .inl ⟨b,List.mem_of_getElem? h3,o,n,hl⟩
   ·exact .inr (.inl ⟨b,List.mem_of_getElem? h4,o,n,hl⟩)
  ·have hlt:i<B.length:=by
    rcases Nat.lt_or_ge i B.length with h1|h1
    ·exact h1
    ·simp [C',List.getElem?_eq_none h1] at hi
   have hib:B[i]? =some B[i]:=List.getElem?_eq_getElem hlt
   obtain ⟨cs,cs1,h1,h2,h3⟩:=hb i _ hib
   have hs:=BH (G:=G) hib hB4
   refine ⟨?_,⟨_,hs⟩,cs,?_⟩
   ·rw [oV i _ hs]
    simp only [C',hib,Option.map_some,Option.some.injEq] at hi
    exact hi
   ·exact Bz h1
 have wY:VL w (ay C' ρc w) ρc Uc xs vals:=by
  have hl:=iP _ _ ha
  refine ⟨by rw [hl];exact hvl.1,fun i x u hi hu=> ?_⟩
  obtain ⟨y,hy,hxy⟩:=iQ _ _ ha i x hi
  exact (hvl.2 i y u hy hu).rn BI hok (fun _ _=>rfl) x hxy
 refine (hF.2 C' ρc Uc w vals hr0 I4 wY).mono fun e w' hpost=> ?_
 obtain ⟨v,ρ1,U1,rfl,hr1,hv1⟩:=hpost
 let ρ2:Nat->Loc:=fun k=>if nm<=k/\k<nm+es.length then ρ1 (4+(k - nm)) else if k ∈ G then .dead else ρ k
 let U2:Nat->Prop:=fun k=>U k\/(nm<=k/\k<nm+es.length)
 have w9:∀ k,nm<=k/\k<nm+es.length->ρ2 k=ρ1 (4+(k - nm)):=fun k hk=>by show (if _ then _ else _)=_;rw [if_pos hk]
 have oW:∀ k,U k->k ∉ G->ρ2 k=ρ k:=fun k hk hG=>by
  show (if _ then _ else _)=_
  rw [if_neg (fun hh=>hfr k hk ⟨hh.1,by omega⟩),if_neg hG]
 have NH:∀ k,k ∈ G->ρ2 k= .dead:=fun k hG=>by
  show (if _ then _ else _)=_
  rw [if_neg (fun hh=>ahS k hG ⟨hh.1,by omega⟩),if_pos hG]
 have hsz:w.heap.size<=w'.heap.size:=hr1.size
 have ahT:∀ b ∈ G,∀ g o n,ρ b= .at g o n->(C.ext g\/C.new g)->C.new g:=fun b jd g o n hl hx=>by
  rcases hx with h1|h1
  ·obtain ⟨b',o',n',hb'⟩:=C.wC g h1
   obtain ⟨h3,_,cs,h4⟩:=hr.fix b' _ hb'
   have:=hr.inj b b' g o n o' n' hl h3
   subst this
   obtain ⟨_,o2,h5,h6⟩:=Eh b jd
   rw [h5] at h4;cases h4
   simp [isRow] at h6
  ·exact h1
 have hoff:∀ i g o n,i<es.length->ρ1 (4+i)= .at g o n->((∃ b ∈ G,∃ o n,ρ b= .at g o n)\/w.heap.size<=g)/\g<w'.heap.size:=fun i g o n hi hl=>by
  obtain ⟨h1,h2⟩:=hr1.bE g ⟨_,o,n,hl⟩
  refine ⟨?_,h2⟩
  rcases h1 with h1|h1
  ·obtain ⟨b,o',n',hb⟩:=C'.wC g h1
   obtain ⟨h3,_,_⟩:=hr1.fix b _ hb
   have:=hr1.inj (4+i) b g o n o' n' hl h3
   have:=C'.AU b _ hb
   omega
  ·exact h1
 have hold:∀ k g o n,ρ k= .at g o n->g<w.heap.size:=fun k g o n hl=>(hr.bE g ⟨k,o,n,hl⟩).2
 have hheap:∀ g,g<w.heap.size->(∀ b ∈ B,∀ o n,ρ b≠.at g o n)->(∀ b ∈ G,∀ o n,ρ b≠.at g o n)->w'.heap[g]? =w.heap[g]? :=fun g hg h1 h2=>
  hr1.old g hg (fun ⟨b,fT,o,n,hl⟩=>h1 b fT o n hl) (fun ⟨b,jd,o,n,hl⟩=>h2 b jd o n hl)
 have hcase:∀ k g o n,ρ2 k= .at g o n->(∃ i,k=nm+i/\i<es.length/\ρ1 (4+i)= .at g o n)\/(k ∉ G/\ρ k= .at g o n):=fun k g o n hk=>by
  by_cases h1:nm<=k/\k<nm+es.length
  ·rw [w9 k h1] at hk
   exact .inl ⟨k - nm,by omega,by omega,hk⟩
  ·have hk':(if k ∈ G then Loc.dead else ρ k)= .at g o n:=by
    have:ρ2 k=(if k ∈ G then Loc.dead else ρ k):=by show (if _ then _ else _)=_;rw [if_neg h1]
    rw [<-this];exact hk
   split at hk'
   ·cases hk'
   ·rename_i h2;exact .inr ⟨h2,hk'⟩
 have hok2:∀ g,ay C ρ w g->ay C ρ2 w' g:=fun g hg=>⟨hg.1,by have:=hg.2.1;omega,fun ⟨k,o,n,hk⟩=>by
  rcases hcase k g o n hk with ⟨i,rfl,hi,hl⟩|⟨_,hl⟩
  ·rcases (hoff i g o n hi hl).1 with ⟨b,_,o',n',hb'⟩|h1
   ·exact hg.2.2 ⟨b,o',n',hb'⟩
   ·have:=hg.2.1;omega
  ·exact hg.2.2 ⟨k,o,n,hl⟩⟩
 have uN:∀ g,ay C ρ w g->w'.heap[g]? =w.heap[g]? :=fun g hg=>hheap g hg.2.1 (fun b _ o n hl=>hg.2.2 ⟨b,o,n,hl⟩) (fun b _ o n hl=>hg.2.2 ⟨b,o,n,hl⟩)
 have uO:Later U ρ ρ2:=fun k hk=>by
  by_cases hG:k ∈ G
  ·exact .inr (NH k hG)
  ·exact .inl (oW k hk hG)
 have jw:∀ g,ay C' ρ1 w' g->ay C ρ2 w' g:=fun g hg=>by
  refine ⟨?_,hg.2.1,fun ⟨k,o,n,hk⟩=> ?_⟩
  ·rcases hg.1 with h1|⟨b,jd,o,n,hl⟩|h1
   ·exact h1.1
   ·exact .inr (ahT b jd g o n hl (hr.bE g ⟨b,o,n,hl⟩).1)
   ·exact .inr (.inr (Nat.le_trans hr.size h1))
  ·rcases hcase k g o n hk with ⟨i,rfl,hi,hl⟩|⟨hG,hl⟩
   ·exact hg.2.2 ⟨_,o,n,hl⟩
   ·rcases hg.1 with h1|⟨b,jd,o',n',hl'⟩|h1
    ·exact h1.2.2 ⟨k,o,n,hl⟩
    ·have:=hr.inj k b g o n o' n' hl hl'
     subst this
     exact hG jd
    ·have:=hold k g o n hl
     have h1':w.heap.size<=g:=h1
     omega
 have hSo:∀ k i,get (mG B nm es.length) k=some i->U2 k/\ρ2 k=ρ1 i:=fun k i hk=>by
  rcases NG hk with h1|⟨h1,h2,rfl⟩
  ·have hkB:=List.mem_of_getElem? h1
   have hfx:=(hr1.fix i (ρ k) (by show (B[i]?).map ρ=_;rw [h1];rfl)).1
   exact ⟨.inl (sU k hkB).1,by rw [oW k (sU k hkB).1 (fun hG=>hBG k hkB hG),hfx]⟩
  ·exact ⟨.inr ⟨h1,h2⟩,w9 k ⟨h1,h2⟩⟩
 refine ⟨v,r',_,ρ2,U2,rfl,⟨fun k o hk=> ?_,fun k hk=> ?_,fun k k' g o n o' n' h1 h2=> ?_,hr1.os.trans hr.os,hr1.tape.trans hr.tape,hr1.output.trans hr.output,Nat.le_trans hr.size hsz,
  fun g hg he hv=> ?_,hr.kL,fun g ho=> ?_,fun b l hb2=> ?_⟩,hv1.rn hSo jw (fun _ _=>rfl) r' hr',fun x u hx=>hx.mono hok2 uN (fun k hk=> .inl hk) uO,fun b hb2=> ?_,hQ⟩
 ·rw [get_append,gY] at hk
  by_cases hin:nm<=k/\k<nm+es.length
  ·have hi:k - nm<es'.length:=by omega
   rw [if_pos hin.1,List.getElem?_eq_getElem hi] at hk
   cases hk
   obtain ⟨x,hx1,hx2⟩:=he (k - nm) _ (List.getElem?_eq_getElem hi)
   refine ⟨.inr hin,?_⟩
   rw [w9 k hin]
   have hgt:get (outs bs' es) (4+(k - nm))=some x:=IG (by omega) hx1
   exact (hr1.hp _ _ hgt).2.rn hSo jw (fun _ _=>rfl) (fun _ _ _ _=>rfl) hx2
  ·have hno:(if nm<=k then es'[k - nm]? else none)=none:=by
    split
    ·exact List.getElem?_eq_none (by omega)
    ·rfl
   rw [hno] at hk
   simp only [get_append] at hk
   cases hbx:get (gy B cs') k with
   |some o'=>
    rw [hbx] at hk;cases hk
    obtain ⟨i,c2,h1,h2,rfl⟩:=wU B cs' k _ hbx
    have hkB:=List.mem_of_getElem? h1
    refine ⟨.inl (sU k hkB).1,?_⟩
    obtain ⟨x,hx1,hx2⟩:=hb' i c2 h2
    have hfx:=(hr1.fix i (ρ k) (by show (B[i]?).map ρ=_;rw [h1];rfl)).1
    rw [oW k (sU k hkB).1 (fun hG=>hBG k hkB hG),<-hfx]
    exact (hr1.hp i _ (Bz hx1)).2.rn hSo jw (fun _ _=>rfl) (fun _ _ _ _=>rfl) (by simp only [cO];exact hx2)
   |none=>
    rw [hbx] at hk
    simp only [Eg] at hk
    by_cases hG:k ∈ G
    ·rw [if_pos hG] at hk
     cases hk
     exact ⟨.inl (Eh k hG).1,NH k hG⟩
    ·rw [if_neg hG] at hk
     simp only at hk
     obtain ⟨sP,ho⟩:=hr.hp k o hk
     refine ⟨.inl sP,?_⟩
     rw [oW k sP hG]
     refine dV.mono hok2 uN (fun k hk=> .inl hk) uO (fun g o n hl=>hheap g (hold k g o n hl) (fun b fT o' n' hb2=> ?_) (fun b jd o' n' hb2=> ?_)) ho
     ·have:=hr.inj k b g o n o' n' hl hb2
      subst this
      exact Ec B cs' k hbx hcl'.symm fT
     ·have:=hr.inj k b g o n o' n' hl hb2
      subst this
      exact hG jd
 ·rw [get_append,gY] at hk
  have hin:¬ (nm<=k/\k<nm+es.length):=fun hh=>by
   rw [if_pos hh.1,List.getElem?_eq_getElem (show k - nm<es'.length by omega)] at hk
   cases hk
  have hno:(if nm<=k then es'[k - nm]? else none)=none:=by
   split
   ·exact List.getElem?_eq_none (by omega)
   ·rfl
  rw [hno] at hk
  simp only [get_append] at hk
  show (if _ then _ else _)=_
  rw [if_neg hin]
  cases hbx:get (gy B cs') k with
  |some o'=>rw [hbx] at hk;cases hk
  |none=>
   rw [hbx] at hk
   simp only [Eg] at hk
   by_cases hG:k ∈ G
   ·rw [if_pos hG]
   ·rw [if_neg hG] at hk ⊢
    exact hr.hd k hk
 ·rcases hcase k g o n h1 with ⟨i,rfl,hi,hl⟩|⟨hG,hl⟩<;>rcases hcase k' g o' n' h2 with ⟨i',rfl,hi',hl'⟩|⟨hG',hl'⟩
  ·have:=hr1.inj _ _ g o n o' n' hl hl'
   omega
  ·rcases (hoff i g o n hi hl).1 with ⟨b,jd,o2,n2,hb2⟩|h3
   ·have:=hr.inj k' b g o' n' o2 n2 hl' hb2
    subst this;exact (hG' jd).elim
   ·have:=hold _ g o' n' hl';omega
  ·rcases (hoff i' g o' n' hi' hl').1 with ⟨b,jd,o2,n2,hb2⟩|h3
   ·have:=hr.inj k b g o n o2 n2 hl hb2
    subst this;exact (hG jd).elim
   ·have:=hold _ g o n hl;omega
  ·exact hr.inj _ _ g o n o' n' hl hl'
 ·have hg':g<w.heap.size:=Nat.lt_of_lt_of_le hg hr.size
  rw [<-hr.old g hg he hv]
  have key:∀ b o n,ρ b≠.at g o n:=fun b o n hl=>by
   rcases (hr.bE g ⟨b,o,n,hl⟩).1 with h1|h1|h1
   ·exact he h1
   ·exact hv h1
   ·omega
  exact hheap g hg' (fun b _=>key b) (fun b _=>key b)
 ·obtain ⟨k,o,n,hk⟩:=ho
  rcases hcase k g o n hk with ⟨i,rfl,hi,hl⟩|⟨hG,hl⟩
  ·have h1:=hoff i g o n hi hl
   refine ⟨?_,h1.2⟩
   rcases h1.1 with ⟨b,jd,o2,n2,hb2⟩|h3
   ·exact (hr.bE g ⟨b,o2,n2,hb2⟩).1
   ·exact .inr (.inr (Nat.le_trans hr.size h3))
  ·exact ⟨(hr.bE g ⟨k,o,n,hl⟩).1,by have:=hold k g o n hl;omega⟩
 ·obtain ⟨h1,h2,cs0,h3⟩:=hr.fix b l hb2
  have hG:b ∉ G:=fun hG=>by
   obtain ⟨_,o,h5,h6⟩:=Eh b hG
   rw [h3] at h5;cases h5
   simp [isRow] at h6
  refine ⟨by rw [oW b h2 hG];exact h1,.inl h2,?_⟩
  have hin:¬ (nm<=b/\b<nm+es.length):=fun hh=>hfr b h2 ⟨hh.1,by omega⟩
  have hno:(if nm<=b then es'[b - nm]? else none)=none:=by
   split
   ·exact List.getElem?_eq_none (by omega)
   ·rfl
  rw [get_append,gY,hno]
  simp only [get_append,Eg]
  cases hbx:get (gy B cs') b with
  |some o'=>
   obtain ⟨i,c2,_,_,rfl⟩:=wU B cs' b _ hbx
   exact ⟨c2,rfl⟩
  |none=>
   simp only [if_neg hG]
   exact ⟨cs0,h3⟩
 ·rcases hb2 with h1|h1
  ·exact .inl h1
  ·exact .inr ⟨h1.1,by omega⟩
end
end Go.Eng
namespace Go.Eng
open Go
section
variable {P:Program} {f:FuncId} {xs ys:List AV} {bs bs' cs':List (List AV)} {gs es es':List Ob} {r r':AV} {h:List (Nat×Ob)} {nm:Nat}
def nT (h:List (Nat×Ob)) (S:List (Nat×Nat)):List Nat->List (List AV)->Prop
 |[],[]=>True
 |b::B,cs::bs=>(match get h b with
  |some (.box cs0)=>aN [] S [] cs cs0
  |_=>False)/\nT h S B bs
 |_,_=>False
def nU (h:List (Nat×Ob)):List Nat->List Ob->Prop
 |[],[]=>True
 |b::G,o::gs=>(get h b=some o/\isRow o=true)/\nU h G gs
 |_,_=>False
def yV (S:List (Nat×Nat)):List (List AV)->List (List AV)->Prop
 |[],[]=>True
 |c::cs,x::xs=>aN [] S [] c x/\yV S cs xs
 |_,_=>False
def yX (S:List (Nat×Nat)):List Ob->List Ob->Prop
 |[],[]=>True
 |c::cs,x::xs=>cO [] S [] c x/\yX S cs xs
 |_,_=>False
theorem NI {S:List (Nat×Nat)}:∀ (B:List Nat) (bs:List (List AV)),nT h S B bs->bs.length=B.length/\∀ (i b:Nat),B[i]? =some b->∃ cs cs0,bs[i]? =some cs/\get h b=some (.box cs0)/\aN [] S [] cs cs0
 |[],[],_=>⟨rfl,fun i b hi=>by simp at hi⟩
 |b::B,cs::bs,hx=>by
  simp only [nT] at hx
  obtain ⟨h1,h2⟩:=NI B bs hx.2
  refine ⟨by simp [h1],fun i c hi=> ?_⟩
  cases i with
  |zero=>
   simp at hi;subst hi
   obtain ⟨h3,_⟩:=hx
   split at h3
   ·rename_i cs0 hc;exact ⟨cs,cs0,rfl,hc,h3⟩
   ·exact h3.elim
  |succ i=>simpa using h2 i c (by simpa using hi)
 |[],_::_,hx=>by simp [nT] at hx
 |_::_,[],hx=>by simp [nT] at hx
theorem NJ:∀ (G:List Nat) (gs:List Ob),nU h G gs->gs.length=G.length/\∀ (i b:Nat),G[i]? =some b->∃ o,gs[i]? =some o/\get h b=some o/\isRow o=true
 |[],[],_=>⟨rfl,fun i b hi=>by simp at hi⟩
 |b::G,o::gs,hx=>by
  simp only [nU] at hx
  obtain ⟨h1,h2⟩:=NJ G gs hx.2
  refine ⟨by simp [h1],fun i c hi=> ?_⟩
  cases i with
  |zero=>simp at hi;subst hi;exact ⟨o,rfl,hx.1.1,hx.1.2⟩
  |succ i=>simpa using h2 i c (by simpa using hi)
 |[],_::_,hx=>by simp [nU] at hx
 |_::_,[],hx=>by simp [nU] at hx
theorem NK {S:List (Nat×Nat)}:∀ (cs xs:List (List AV)),yV S cs xs->cs.length=xs.length/\∀ (i:Nat) (c:List AV),cs[i]? =some c->∃ x,xs[i]? =some x/\aN [] S [] c x
 |[],[],_=>⟨rfl,fun i b hi=>by simp at hi⟩
 |c::cs,x::xs,hx=>by
  simp only [yV] at hx
  obtain ⟨h1,h2⟩:=NK cs xs hx.2
  refine ⟨by simp [h1],fun i b hi=> ?_⟩
  cases i with
  |zero=>simp at hi;subst hi;exact ⟨x,rfl,hx.1⟩
  |succ i=>simpa using h2 i b (by simpa using hi)
 |[],_::_,hx=>by simp [yV] at hx
 |_::_,[],hx=>by simp [yV] at hx
theorem NM {S:List (Nat×Nat)}:∀ (cs xs:List Ob),yX S cs xs->cs.length=xs.length/\∀ (i:Nat) (c:Ob),cs[i]? =some c->∃ x,xs[i]? =some x/\cO [] S [] c x
 |[],[],_=>⟨rfl,fun i b hi=>by simp at hi⟩
 |c::cs,x::xs,hx=>by
  simp only [yX] at hx
  obtain ⟨h1,h2⟩:=NM cs xs hx.2
  refine ⟨by simp [h1],fun i b hi=> ?_⟩
  cases i with
  |zero=>simp at hi;subst hi;exact ⟨x,rfl,hx.1⟩
  |succ i=>simpa using h2 i b (by simpa using hi)
 |[],_::_,hx=>by simp [yX] at hx
 |_::_,[],hx=>by simp [yX] at hx
theorem NN {h':List (Nat×Ob)} {S:List (Nat×Nat)}:∀ (B:List Nat) (bs:List (List AV)),(∀ b ∈ B,get h' b=get h b)->nT h S B bs->nT h' S B bs
 |[],[],_,_=>by simp [nT]
 |b::B,cs::bs,he,hx=>by
  simp only [nT] at hx ⊢
  rw [he b (by simp)]
  exact ⟨hx.1,NN B bs (fun c hc=>he c (by simp [hc])) hx.2⟩
 |[],_::_,_,hx=>by simp [nT] at hx
 |_::_,[],_,hx=>by simp [nT] at hx
theorem NP {h':List (Nat×Ob)}:∀ (G:List Nat) (gs:List Ob),(∀ b ∈ G,get h' b=get h b)->nU h G gs->nU h' G gs
 |[],[],_,_=>by simp [nU]
 |b::G,o::gs,he,hx=>by
  simp only [nU] at hx ⊢
  rw [he b (by simp)]
  exact ⟨hx.1,NP G gs (fun c hc=>he c (by simp [hc])) hx.2⟩
 |[],_::_,_,hx=>by simp [nU] at hx
 |_::_,[],_,hx=>by simp [nU] at hx
theorem uR.uQ (hF:uR P f xs bs gs r bs' es) (B G:List Nat) (r':AV) (cs':List (List AV)) (es':List Ob) (ha:aN [] (dY B G) [] xs ys) (hb:nT h (dY B G) B bs) (hg:nU h G gs)
  (hd:(decide (B.length<=4)&&(decide (G.length<=4)&&(decide ((B++G).Nodup)&&(decide (bs'.length=B.length)&&decide (es.length<=8)))))=true)
  (hb':yV (mG B nm es.length) cs' bs') (he:yX (mG B nm es.length) es' es) (hr:rv [] (mG B nm es.length) [] r' r):
  sw P nm f ys h ⟨r',fC nm es'++(gy B cs'++kills G),B++G⟩:=by
 intro h' hh Q hQ
 simp only [Bool.and_eq_true,decide_eq_true_eq] at hd
 obtain ⟨h1,h2,h3,h4,h5⟩:=hd
 obtain ⟨b1,b2⟩:=NI B bs (NN (h':=h') B bs (fun b hb=>hh b (by simp [hb])) hb)
 obtain ⟨g1,g2⟩:=NJ G gs (NP (h':=h') G gs (fun b hb=>hh b (by simp [hb])) hg)
 obtain ⟨o1,o2⟩:=NK cs' bs' hb'
 obtain ⟨e1,e2⟩:=NM es' es he
 refine hF.call ha b1 g1 h1 h2 h3 b2 g2 h4 (o1.trans h4) o2 e1 h5 e2 hr ?_
 simpa only [List.append_assoc] using hQ
end
end Go.Eng
namespace Go.Eng
open Go
section
variable {P:Program} {f:FuncId} {xs ys:List AV} {r:AV} {es:List Ob} {h:List (Nat×Ob)} {nm:Nat}
theorem yY {k:List It} {Q:Exit->St->Prop} {n n':Nat} {t:List (Nat×AV)} {d:Option Nat} {l:List SOper} (hF:Fn P f xs [] r [] es) (ha:aN h [] [] xs ys) (hes:es.all rowOk=true) (hna:∀ o ∈ es,sO o) (hm:es.length<=8) (hx:dX es.length r=true) (hr0:na r=true)
 (hk:go P (.ops (nm+8) n' l::k) Q n (aZ t d (sh nm r)) (fC nm es++h)):wW P nm f ys d n' l k Q n t h:=IL (hF.IX nm ha hes hna hm hx hr0) hk
end
attribute [go_sem] fC
end Go.Eng
namespace Go.Eng
open Go
theorem VR.BJ {w w':World} {ok ok':Nat->Prop} {ρ ρ':Nat->Loc} {U U':Nat->Prop} {S:List (Nat×Nat)} (hS:∀ k b,get S k=some b->U' k/\ρ' k=ρ b) {y:AV} {u:Value} (h:VR w ok ρ U y u) (hn:na y=true):
  ∀ x,rv [] S [] x y->VR w' ok' ρ' U' x u:=by
 have key:VR w' ok' ρ U y u:=by
  induction h with
  |p h=>exact .p (h.na hn)
  |agg hl _ ih=>exact .agg hl fun i c u h1 h2=>ih i c u h1 h2 (lH _ (by simpa [na] using hn) i c h1)
  |aT hl _ ih=>exact .aT hl fun i c u h1 h2=>ih i c u h1 h2 (lH _ (by simpa [na] using hn) i c h1)
  |fn hf hl _ ih=>exact .fn hf hl fun i c u h1 h2=>ih i c u h1 h2 (lH _ (by simpa [na] using hn) i c h1)
  |own hu h=>exact .own hu h
  |ptr=>simp [na] at hn
  |rp=>simp [na] at hn
  |mp=>simp [na] at hn
 exact key.rn hS (fun _ h=>h) (fun _ _=>rfl)
theorem dV.BJ {w':World} {ok ok':Nat->Prop} {ρ ρ':Nat->Loc} {U U':Nat->Prop} {S:List (Nat×Nat)} (hS:∀ k b,get S k=some b->U' k/\ρ' k=ρ b) {l:Loc} {x y:Ob} (h:dV w' ok ρ U l y) (hn:sO y)
  (hx:cO [] S [] x y):dV w' ok' ρ' U' l x:=by
 cases y with
 |box cs=>
  cases x with
  |box ds=>
   simp only [cO] at hx
   obtain ⟨g,o,n,e,cells,h1,h2,h3,h4,h5⟩:=h
   have h6:=iP _ _ hx
   refine ⟨g,o,n,e,cells,h1,h2,h3,by omega,fun j c hj=> ?_⟩
   obtain ⟨z,h7,h8⟩:=iQ _ _ hx j c hj
   obtain ⟨u,hu,hv⟩:=h5 j z h7
   exact ⟨u,hu,hv.BJ hS (hn z (List.mem_of_getElem? h7)) c h8⟩
  |_=>simp only [cO] at hx
 |row e sz xs=>
  cases x with
  |row e' sz' ys=>
   simp only [cO] at hx
   obtain ⟨rfl,rfl,rfl⟩:=hx
   rcases h with h|⟨g,o,n,cells,h1,h2,h3,h4,h5,h6⟩
   ·exact .inl h
   ·refine .inr ⟨g,o,n,cells,h1,h2,h3,h4,h5,fun k x j c hk hj=> ?_⟩
    obtain ⟨u,hu,h1c,hv⟩:=h6 k x j c hk hj
    exact ⟨u,hu,h1c,hv.na (hn x (List.mem_of_getElem? hk) c (List.mem_of_getElem? hj))⟩
  |_=>simp only [cO] at hx
 |_=>simp [sO] at hn
section
variable {P:Program} {f:FuncId} {xs ys:List AV} {bs bs' cs':List (List AV)} {es es':List Ob} {r r':AV} {h:List (Nat×Ob)} {B:List Nat} {nm:Nat} {Q:AV->List (Nat×Ob)->Prop}
theorem uR.IX (hF:uR P f xs bs [] r bs' es) (ha:aN h (dY B []) [] xs ys)
  (hbl:bs.length=B.length) (hB4:B.length<=4) (IZ:B.Nodup)
  (hb:∀ (i b:Nat),B[i]? =some b->∃ cs cs0,bs[i]? =some cs/\get h b=some (.box cs0)/\aN [] (dY B []) [] cs cs0)
  (ahP:bs'.length=B.length) (hcl':cs'.length=B.length) (hb':∀ (i:Nat) (c:List AV),cs'[i]? =some c->∃ x,bs'[i]? =some x/\nS x=true/\aN [] (mG B nm es.length) [] c x)
  (hel:es'.length=es.length) (hm:es.length<=8) (he:∀ (i:Nat) (y:Ob),es'[i]? =some y->∃ x,es[i]? =some x/\sO x/\cO [] (mG B nm es.length) [] y x)
  (hna:na r=true) (hr':rv [] (mG B nm es.length) [] r' r) (hQ:Q r' (fC nm es'++(gy B cs'++h))):AY P nm f ys h Q:=by
 refine ⟨hF.1,fun C ρ U w vals hr hfr hvl=> ?_⟩
 have sU:∀ b ∈ B,U b/\∃ cs0,get h b=some (.box cs0):=fun b fT=>by
  obtain ⟨i,hi⟩:=List.mem_iff_getElem?.1 fT
  obtain ⟨cs,cs0,_,h2,_⟩:=hb i b hi
  exact ⟨(hr.hp b _ h2).1,cs0,h2⟩
 let C':Ctx:=⟨w,ay C (bY ρ (dY B []) []) w,(fun g=>∃ b ∈ B,∃ o n,ρ b=Loc.at g o n),(fun i=>(B[i]?).map ρ),0,(fun g hg=>by
   obtain ⟨b,fT,o,n,hl⟩:=hg
   obtain ⟨i,hi⟩:=List.mem_iff_getElem?.1 fT
   exact ⟨i,o,n,by simp [hi,hl]⟩),(fun i l hl=>by
   rcases Nat.lt_or_ge i B.length with h1|h1
   ·omega
   ·simp [List.getElem?_eq_none h1] at hl),(fun _=>False),(fun _ h=>h.elim)⟩
 let ρc:Nat->Loc:=bY ρ (dY B []) []
 let Uc:Nat->Prop:=fun k=>∃ b,get (dY B []) k=some b
 have oV:∀ k b,get (dY B []) k=some b->ρc k=ρ b:=fun k b hk=>wS hk
 have sV:∀ k g o n,ρc k= .at g o n->∃ b,get (dY B []) k=some b/\ρ b= .at g o n:=fun k g o n hk=>by
  cases hs:get (dY B []) k with
  |none=>
   have:ρc k= .dead:=by show bY ρ (dY B []) [] k=_;simp [bY,hs]
   rw [this] at hk;cases hk
  |some b=>exact ⟨b,rfl,by rw [<-oV k b hs];exact hk⟩
 have hown0:∀ g,iI ρc g->iI ρ g:=fun g ⟨k,o,n,hk⟩=>by
  obtain ⟨b,_,hb⟩:=sV k g o n hk
  exact ⟨b,o,n,hb⟩
 have NQ:∀ g,ay C ρc w g->ay C' ρc w g:=fun g hg=>⟨.inl hg,hg.2.1,hg.2.2⟩
 have hok:∀ g,ay C ρ w g->ay C' ρc w g:=fun g hg=>NQ g (Bu hg)
 have BI:∀ k b,get (dY B []) k=some b->Uc k/\ρc k=ρ b:=fun k b hk=>⟨⟨b,hk⟩,oV k b hk⟩
 have I4:∀ k,Uc k->k<8:=fun k ⟨b,hk⟩=>by
  rcases qz hk with h1|⟨h1,h2⟩
  ·have:=(List.getElem?_eq_some_iff.1 h1).1;omega
  ·simp at h2
 have hr0:HR C' ρc Uc (outs bs []) w:=by
  refine ⟨fun k o hk=> ?_,fun k hk=> ?_,fun k k' g o n o' n' h1 h2=> ?_,rfl,rfl,rfl,Nat.le_refl _,fun g _ _ _=>rfl,
   fun g hg=>⟨hg.2.1,fun ⟨b,fT,o,n,hl⟩=>by
    obtain ⟨i,hi⟩:=List.mem_iff_getElem?.1 fT
    have hs:=BH (G:=[]) hi hB4
    exact hg.2.2 ⟨i,o,n,(oV i b hs).trans hl⟩,fun h=>h⟩,fun g ho=> ?_,fun i l hi=> ?_⟩
  ·unfold outs at hk
   rw [get_append,iR,gY] at hk
   simp only [Nat.zero_le,if_true,Nat.sub_zero,List.getElem?_map] at hk
   cases hbk:bs[k]? with
   |some cs=>
    rw [hbk] at hk
    simp only [Option.map_some,Option.some.injEq] at hk
    subst hk
    have hlt:k<B.length:=by rw [<-hbl];exact (List.getElem?_eq_some_iff.1 hbk).1
    have hib:B[k]? =some B[k]:=List.getElem?_eq_getElem hlt
    obtain ⟨cs1,cs0,h1,h2,h3⟩:=hb k _ hib
    rw [hbk] at h1;cases h1
    have hs:=BH (G:=[]) hib hB4
    refine ⟨⟨_,hs⟩,?_⟩
    rw [oV k _ hs]
    exact (hr.hp _ _ h2).2.rn BI hok (fun _ _=>rfl) (fun _ _ _ _=>rfl) (by simp only [cO];exact h3)
   |none=>
    rw [hbk] at hk
    simp only [Option.map_none] at hk
    simp [fC,get] at hk
  ·cases hs:get (dY B []) k with
   |none=>show bY ρ (dY B []) [] k=_;simp [bY,hs]
   |some b=>
    unfold outs at hk
    rw [get_append,iR,gY] at hk
    simp only [Nat.zero_le,if_true,Nat.sub_zero,List.getElem?_map] at hk
    rcases qz hs with h1|⟨h1,h2⟩
    ·have hlt:k<bs.length:=by rw [hbl];exact (List.getElem?_eq_some_iff.1 h1).1
     rw [List.getElem?_eq_getElem hlt] at hk
     simp at hk
    ·simp at h2
  ·obtain ⟨b,hs,hl⟩:=sV k g o n h1
   obtain ⟨b',hs',hl'⟩:=sV k' g o' n' h2
   have e:=hr.inj b b' g o n o' n' hl hl'
   subst e
   rcases qz hs with h3|⟨h3,h4⟩<;>rcases qz hs' with h5|⟨h5,h6⟩
   ·obtain ⟨p1,q1⟩:=List.getElem?_eq_some_iff.1 h3
    obtain ⟨p2,q2⟩:=List.getElem?_eq_some_iff.1 h5
    exact (List.getElem_inj IZ).1 (q1.trans q2.symm)
   ·exact absurd h6 (by simp)
   ·exact absurd h4 (by simp)
   ·simp at h4
  ·obtain ⟨k,o,n,hk⟩:=ho
   obtain ⟨b,hs,hl⟩:=sV k g o n hk
   refine ⟨?_,(hr.bE g ⟨b,o,n,hl⟩).2⟩
   rcases qz hs with h3|⟨h3,h4⟩
   ·exact .inl ⟨b,List.mem_of_getElem? h3,o,n,hl⟩
   ·simp at h4
  ·have hlt:i<B.length:=by
    rcases Nat.lt_or_ge i B.length with h1|h1
    ·exact h1
    ·simp [C',List.getElem?_eq_none h1] at hi
   have hib:B[i]? =some B[i]:=List.getElem?_eq_getElem hlt
   obtain ⟨cs,cs1,h1,h2,h3⟩:=hb i _ hib
   have hs:=BH (G:=[]) hib hB4
   refine ⟨?_,⟨_,hs⟩,cs,?_⟩
   ·rw [oV i _ hs]
    simp only [C',hib,Option.map_some,Option.some.injEq] at hi
    exact hi
   ·exact Bz h1
 have wY:VL w (ay C' ρc w) ρc Uc xs vals:=by
  have hl:=iP _ _ ha
  refine ⟨by rw [hl];exact hvl.1,fun i x u hi hu=> ?_⟩
  obtain ⟨y,hy,hxy⟩:=iQ _ _ ha i x hi
  exact (uL hr (hvl.2 i y u hy hu) x hxy).mono NQ (fun _ _=>rfl) (fun k hk=>by
   rcases hk with hk|hk
   ·exact IA hk
   ·simp at hk) (fun _ _=> .inl rfl)
 refine (hF.2 C' ρc Uc w vals hr0 I4 wY).mono fun e w' hpost=> ?_
 obtain ⟨v,ρ1,U1,rfl,hr1,hv1⟩:=hpost
 let ρ2:Nat->Loc:=fun k=>if nm<=k/\k<nm+es.length then ρ1 (4+(k - nm)) else ρ k
 let U2:Nat->Prop:=fun k=>U k\/(nm<=k/\k<nm+es.length)
 have w9:∀ k,nm<=k/\k<nm+es.length->ρ2 k=ρ1 (4+(k - nm)):=fun k hk=>by show (if _ then _ else _)=_;rw [if_pos hk]
 have oW:∀ k,U k->ρ2 k=ρ k:=fun k hk=>by
  show (if _ then _ else _)=_
  rw [if_neg (fun hh=>hfr k hk ⟨hh.1,by omega⟩)]
 have hsz:w.heap.size<=w'.heap.size:=hr1.size
 have hoff:∀ i g o n,i<es.length->ρ1 (4+i)= .at g o n->w.heap.size<=g/\g<w'.heap.size:=fun i g o n hi hl=>by
  obtain ⟨h1,h2⟩:=hr1.bE g ⟨_,o,n,hl⟩
  refine ⟨?_,h2⟩
  rcases h1 with h1|h1|h1
  ·obtain ⟨b,o',n',hb⟩:=C'.wC g h1
   obtain ⟨h3,_,_⟩:=hr1.fix b _ hb
   have:=hr1.inj (4+i) b g o n o' n' hl h3
   have:=C'.AU b _ hb
   omega
  ·exact h1.elim
  ·exact h1
 have hold:∀ k g o n,ρ k= .at g o n->g<w.heap.size:=fun k g o n hl=>(hr.bE g ⟨k,o,n,hl⟩).2
 have hheap:∀ g,g<w.heap.size->(∀ b ∈ B,∀ o n,ρ b≠.at g o n)->w'.heap[g]? =w.heap[g]? :=fun g hg h1=>
  hr1.old g hg (fun ⟨b,fT,o,n,hl⟩=>h1 b fT o n hl) (fun h=>h)
 have hcase:∀ k g o n,ρ2 k= .at g o n->(∃ i,k=nm+i/\i<es.length/\ρ1 (4+i)= .at g o n)\/ρ k= .at g o n:=fun k g o n hk=>by
  by_cases h1:nm<=k/\k<nm+es.length
  ·rw [w9 k h1] at hk
   exact .inl ⟨k - nm,by omega,by omega,hk⟩
  ·have:ρ2 k=ρ k:=by show (if _ then _ else _)=_;rw [if_neg h1]
   rw [this] at hk
   exact .inr hk
 have hok2:∀ g,ay C ρ w g->ay C ρ2 w' g:=fun g hg=>⟨hg.1,by have:=hg.2.1;omega,fun ⟨k,o,n,hk⟩=>by
  rcases hcase k g o n hk with ⟨i,rfl,hi,hl⟩|hl
  ·have:=(hoff i g o n hi hl).1
   have:=hg.2.1;omega
  ·exact hg.2.2 ⟨k,o,n,hl⟩⟩
 have uN:∀ g,ay C ρ w g->w'.heap[g]? =w.heap[g]? :=fun g hg=>hheap g hg.2.1 (fun b _ o n hl=>hg.2.2 ⟨b,o,n,hl⟩)
 have uO:Later U ρ ρ2:=fun k hk=> .inl (oW k hk)
 have hSo:∀ k i,get (mG B nm es.length) k=some i->U2 k/\ρ2 k=ρ1 i:=fun k i hk=>by
  rcases NG hk with h1|⟨h1,h2,rfl⟩
  ·have hkB:=List.mem_of_getElem? h1
   have hfx:=(hr1.fix i (ρ k) (by show (B[i]?).map ρ=_;rw [h1];rfl)).1
   exact ⟨.inl (sU k hkB).1,by rw [oW k (sU k hkB).1,hfx]⟩
  ·exact ⟨.inr ⟨h1,h2⟩,w9 k ⟨h1,h2⟩⟩
 refine ⟨v,r',_,ρ2,U2,rfl,⟨fun k o hk=> ?_,fun k hk=> ?_,fun k k' g o n o' n' h1 h2=> ?_,hr1.os.trans hr.os,hr1.tape.trans hr.tape,hr1.output.trans hr.output,Nat.le_trans hr.size hsz,
  fun g hg he hv=> ?_,hr.kL,fun g ho=> ?_,fun b l hb2=> ?_⟩,hv1.BJ hSo hna r' hr',fun x u hx=>hx.mono hok2 uN (fun k hk=> .inl hk) uO,fun b hb2=> ?_,hQ⟩
 ·rw [get_append,gY] at hk
  by_cases hin:nm<=k/\k<nm+es.length
  ·have hi:k - nm<es'.length:=by omega
   rw [if_pos hin.1,List.getElem?_eq_getElem hi] at hk
   cases hk
   obtain ⟨x,hx1,hxn,hx2⟩:=he (k - nm) _ (List.getElem?_eq_getElem hi)
   refine ⟨.inr hin,?_⟩
   rw [w9 k hin]
   have hgt:get (outs bs' es) (4+(k - nm))=some x:=IG (by omega) hx1
   exact (hr1.hp _ _ hgt).2.BJ hSo hxn hx2
  ·have hno:(if nm<=k then es'[k - nm]? else none)=none:=by
    split
    ·exact List.getElem?_eq_none (by omega)
    ·rfl
   rw [hno] at hk
   simp only [get_append] at hk
   cases hbx:get (gy B cs') k with
   |some o'=>
    rw [hbx] at hk;cases hk
    obtain ⟨i,c2,h1,h2,rfl⟩:=wU B cs' k _ hbx
    have hkB:=List.mem_of_getElem? h1
    refine ⟨.inl (sU k hkB).1,?_⟩
    obtain ⟨x,hx1,hxn,hx2⟩:=hb' i c2 h2
    have hfx:=(hr1.fix i (ρ k) (by show (B[i]?).map ρ=_;rw [h1];rfl)).1
    rw [oW k (sU k hkB).1,<-hfx]
    exact (hr1.hp i _ (Bz hx1)).2.BJ hSo (fun c hc=>by
     obtain ⟨j,hj⟩:=List.mem_iff_getElem?.1 hc
     exact lH _ hxn j c hj) (by simp only [cO];exact hx2)
   |none=>
    rw [hbx] at hk
    simp only at hk
    obtain ⟨sP,ho⟩:=hr.hp k o hk
    refine ⟨.inl sP,?_⟩
    rw [oW k sP]
    refine dV.mono hok2 uN (fun k hk=> .inl hk) uO (fun g o n hl=>hheap g (hold k g o n hl) (fun b fT o' n' hb2=> ?_)) ho
    have:=hr.inj k b g o n o' n' hl hb2
    subst this
    exact Ec B cs' k hbx hcl'.symm fT
 ·rw [get_append,gY] at hk
  have hin:¬ (nm<=k/\k<nm+es.length):=fun hh=>by
   rw [if_pos hh.1,List.getElem?_eq_getElem (show k - nm<es'.length by omega)] at hk
   cases hk
  have hno:(if nm<=k then es'[k - nm]? else none)=none:=by
   split
   ·exact List.getElem?_eq_none (by omega)
   ·rfl
  rw [hno] at hk
  simp only [get_append] at hk
  show (if _ then _ else _)=_
  rw [if_neg hin]
  cases hbx:get (gy B cs') k with
  |some o'=>rw [hbx] at hk;cases hk
  |none=>
   rw [hbx] at hk
   simp only at hk
   exact hr.hd k hk
 ·rcases hcase k g o n h1 with ⟨i,rfl,hi,hl⟩|hl<;>rcases hcase k' g o' n' h2 with ⟨i',rfl,hi',hl'⟩|hl'
  ·have:=hr1.inj _ _ g o n o' n' hl hl'
   omega
  ·have:=(hoff i g o n hi hl).1
   have:=hold _ g o' n' hl';omega
  ·have:=(hoff i' g o' n' hi' hl').1
   have:=hold _ g o n hl;omega
  ·exact hr.inj _ _ g o n o' n' hl hl'
 ·have hg':g<w.heap.size:=Nat.lt_of_lt_of_le hg hr.size
  rw [<-hr.old g hg he hv]
  have key:∀ b o n,ρ b≠.at g o n:=fun b o n hl=>by
   rcases (hr.bE g ⟨b,o,n,hl⟩).1 with h1|h1|h1
   ·exact he h1
   ·exact hv h1
   ·omega
  exact hheap g hg' (fun b _=>key b)
 ·obtain ⟨k,o,n,hk⟩:=ho
  rcases hcase k g o n hk with ⟨i,rfl,hi,hl⟩|hl
  ·have h1:=hoff i g o n hi hl
   exact ⟨.inr (.inr (Nat.le_trans hr.size h1.1)),h1.2⟩
  ·exact ⟨(hr.bE g ⟨k,o,n,hl⟩).1,by have:=hold k g o n hl;omega⟩
 ·obtain ⟨h1,h2,cs0,h3⟩:=hr.fix b l hb2
  refine ⟨by rw [oW b h2];exact h1,.inl h2,?_⟩
  have hin:¬ (nm<=b/\b<nm+es.length):=fun hh=>hfr b h2 ⟨hh.1,by omega⟩
  have hno:(if nm<=b then es'[b - nm]? else none)=none:=by
   split
   ·exact List.getElem?_eq_none (by omega)
   ·rfl
  rw [get_append,gY,hno]
  simp only [get_append]
  cases hbx:get (gy B cs') b with
  |some o'=>
   obtain ⟨i,c2,_,_,rfl⟩:=wU B cs' b _ hbx
   exact ⟨c2,rfl⟩
  |none=>
   exact ⟨cs0,h3⟩
 ·rcases hb2 with h1|h1
  ·exact .inl h1
  ·exact .inr ⟨h1.1,by omega⟩
end
end Go.Eng
namespace Go.Eng
open Go
theorem ahU {w:World} {x:Addr} {k:Nat} {v:Value} (h:w.cell? (x.add k)=some v):w.cell? ⟨x.block,x.off+k,none⟩=some v:=by
 have hs:=World.cell?_spot h
 unfold Addr.add at h hs
 split at h
 ·rename_i e
  subst e
  simp only [if_true] at hs
  obtain ⟨b,o,s⟩:=x
  simp only at hs
  subst hs
  exact h
 ·exact h
theorem Arg.rows {w:World} {x:Addr} {len cap sz:Nat} {xs:List (List Value)} (hl:len<=cap) (hz:xs.length=len) (hsz:0<sz) (hx:∀ e ∈ xs,e.length=sz) (ho:∀ e ∈ xs,∀ v ∈ e,v.oneCell'=true)
  (hc:∀ i j e v,xs[i]? =some e->e[j]? =some v->w.cell? (x.add (i*sz+j))=some v):Arg w (.sl sz (xs.map fun e=>e.map AV.v)) (.slice (some x) len cap):=by
 have hlen:(xs.map fun e=>e.map AV.v).length=len:=by simp [hz]
 have hel:∀ (i:Nat) (e:List AV),(xs.map fun e=>e.map AV.v)[i]? =some e->∃ e',xs[i]? =some e'/\e=e'.map AV.v:=by
  intro i e h
  rw [List.getElem?_map] at h
  cases hz:xs[i]? with
  |none=>rw [hz] at h;cases h
  |some z=>rw [hz] at h;simp only [Option.map_some,Option.some.injEq] at h;exact ⟨z,rfl,h.symm⟩
 refine .sl x len cap (fun i j=>((xs[i]?.getD [])[j]?).getD undef) hlen.symm hl (fun h=> ?_) (fun i e h=>by obtain ⟨e',h1,rfl⟩:=hel i e h;rw [List.length_map];exact hx e' (List.mem_of_getElem? h1)) (fun i e j c h hj=> ?_) (fun i e j c h hj=> ?_)
 ·have h0:0<xs.length:=by rw [hlen] at h;omega
  have h2:xs[0]? =some xs[0]:=List.getElem?_eq_getElem h0
  have h3:=hx _ (List.getElem_mem h0)
  have h4:(xs[0])[0]? =some (xs[0][0]):=List.getElem?_eq_getElem (by omega)
  have h1:=hc 0 0 _ _ h2 h4
  simp only [Nat.zero_mul,Nat.add_zero,Addr.add,if_true] at h1
  refine ⟨World.cell?_spot h1,?_⟩
  unfold World.cell? at h1
  split at h1
  ·rename_i c a b hb
   exact (Array.getElem?_eq_some_iff.1 hb).1
  ·cases h1
 ·obtain ⟨e',h1,rfl⟩:=hel i e h
  rw [List.getElem?_map] at hj
  cases hv:e'[j]? with
  |none=>rw [hv] at hj;cases hj
  |some v=>
   have:=ahU (hc i j e' v h1 hv)
   simp only [h1,Option.getD_some,hv]
   refine ⟨?_,ho e' (List.mem_of_getElem? h1) v (List.mem_of_getElem? hv)⟩
   rw [<-this]
 ·obtain ⟨e',h1,rfl⟩:=hel i e h
  rw [List.getElem?_map] at hj
  cases hv:e'[j]? with
  |none=>rw [hv] at hj;cases hj
  |some v=>
   rw [hv] at hj
   simp only [Option.map_some,Option.some.injEq] at hj
   subst hj
   simp only [h1,Option.getD_some,hv]
   exact .v _
end Go.Eng
