/-
  Part of a proof: lemmas and definitions of this work.
  No condition.
-/
import Derived.Test.YtmhaehngejengaaGreatA03
import Derived.Below
import Derived.DataReads
set_option linter.all false
set_option maxRecDepth 100000
set_option maxHeartbeats 8000000
namespace Go.Eng
open Go
def rowOk:Ob→Bool
 | .row _ _ _=>true
 | .box cs=>dM cs
 |_=>false
def oC:Ob→Prop
 | .row _ _ xs=>∀ x ∈ xs,∀ c ∈ x,na c=true
 | .box cs=>∀ c ∈ cs,na c=true
 |_=>False
theorem gZ.agQ {w:World} {ok ok':Nat→Prop} {ρ ρ':Nat→Loc} {U U':Nat→Prop} {l:Loc} {o:Ob} (hr:rowOk o=true) (hok:(∀ g,ok g→ok' g)∨oC o)
 (ho:gZ w ok ρ U l o):gZ w ok' ρ' U' l o:=by
 cases o with
 |row e sz xs=>
  rcases ho with ho|⟨g,o,n,cells,h1,h2,h3,h4,h5,h6⟩
  ·exact .inl ho
  ·refine .inr ⟨g,o,n,cells,h1,h2,h3,h4,h5,fun k x j c hk hj=> ?_⟩
   obtain ⟨u,hu,h1c,hv⟩:=h6 k x j c hk hj
   rcases hok with hok|hok
   ·exact ⟨u,hu,h1c,hv.mono hok (fun _ _=>rfl)⟩
   ·exact ⟨u,hu,h1c,hv.na (hok x (List.mem_of_getElem? hk) c (List.mem_of_getElem? hj))⟩
 |box cs=>
  obtain ⟨g,o,n,e,cells,h1,h2,h3,h4,h5⟩:=ho
  refine ⟨g,o,n,e,cells,h1,h2,h3,h4,fun j c hj=> ?_⟩
  obtain ⟨u,hu,hv⟩:=h5 j c hj
  have hp:=VP.D5 hv (Pq cs hr j c hj)
  rcases hok with hok|hok
  ·exact ⟨u,hu,.p (hp.mono hok (fun _ _=>rfl))⟩
  ·exact ⟨u,hu,.p (hp.na (hok c (List.mem_of_getElem? hj)))⟩
 |_=>simp [rowOk] at hr
def jD (B:List Nat):List AV→List AV→Prop
 |[],[]=>True
 |x::l,y::l'=>(match x with
  | .ptr i j=>match B[i]? with
   |some b=>y= .ptr b j
   |none=>False
  |x=>x=y∧x.pure=true)∧jD B l l'
 |_,_=>False
theorem GY {B:List Nat}:∀ (xs ys:List AV),jD B xs ys→xs.length=ys.length∧∀ (i:Nat) (x:AV),xs[i]? =some x→∃ y,ys[i]? =some y∧
 ((∃ k j b,x= .ptr k j∧B[k]? =some b∧y= .ptr b j)∨(x=y∧x.pure=true))
 |[],[],_=>⟨rfl,fun i b h=>by simp at h⟩
 |x::xs,y::ys,h=>by
  simp only [jD] at h
  obtain ⟨h1,h2⟩:=GY xs ys h.2
  refine ⟨by simp [h1],fun i c hc=> ?_⟩
  cases i with
  |zero=>
   simp at hc;subst hc
   refine ⟨y,rfl,?_⟩
   obtain ⟨h3,_⟩:=h
   split at h3
   ·rename_i k j
    split at h3
    ·rename_i b hb;exact .inl ⟨k,j,b,rfl,hb,h3⟩
    ·exact h3.elim
   ·exact .inr h3
  |succ i=>simpa using h2 i c (by simpa using hc)
 |[],_::_,h=>by simp [jD] at h
 |_::_,[],h=>by simp [jD] at h
section
variable {C C':Ctx} {ρ ρ1:Nat→Loc} {U U1:Nat→Prop} {h:List (Nat×Ob)} {w w':World} {B:List Nat} {bs':List (List AV)} {es:List Ob} {nm:Nat}
def jk (ρ ρ1:Nat→Loc) (nm m:Nat) (k:Nat):Loc:=if nm≤k∧k<nm+m then ρ1 (4+(k - nm)) else ρ k
def Ej (U:Nat→Prop) (nm m:Nat) (k:Nat):Prop:=U k∨(nm≤k∧k<nm+m)
theorem Zd {w:World} {ok:Nat→Prop} {ρ:Nat→Loc} {U:Nat→Prop} {x:AV} {u:Value} (h:VR w ok ρ U x u):x.pure=true→VP w ok x u:=VP.D5 h
theorem back (hr:HR C ρ U h w) (hw0:C'.w0=w) (hext:∀ g,C'.ext g↔∃ b ∈ B,∃ o n,ρ b= .at g o n) (hloc:∀ i,C'.loc i=(B[i]?).map ρ)
 (hr':HR C' ρ1 U1 (outs bs' es) w') (hB:∀ b ∈ B,∃ cs,get h b=some (.box cs)) (hlen:bs'.length=B.length) (hB4:B.length≤4) (hes:es.all rowOk=true)
 (hm:es.length≤8) {cs:List (List AV)} (hlc:bs'.length=cs.length) (hrel:∀ (i:Nat) (c:List AV),cs[i]? =some c→∃ x,bs'[i]? =some x∧jD B x c) (hfr:∀ b,U b→¬ (nm≤b∧b<nm+8))
 (hgv:∀ g,¬ C'.DN g) (lV:(∀ g,aQ C' ρ1 w' g→aQ C (jk ρ ρ1 nm es.length) w' g)∨(bs'=[]∧∀ o ∈ es,oC o)):
 HR C (jk ρ ρ1 nm es.length) (Ej U nm es.length) (dP nm es++(iJ B cs++h)) w'∧
  ∀ x u,VR w (aQ C ρ w) ρ U x u→VR w' (aQ C (jk ρ ρ1 nm es.length) w') (jk ρ ρ1 nm es.length) (Ej U nm es.length) x u:=by
 have Qr:∀ k,U k→jk ρ ρ1 nm es.length k=ρ k:=fun k hk=>by
  unfold jk
  rw [if_neg (fun hh=>hfr k hk ⟨hh.1,by omega⟩)]
 have arv:∀ k g o n,ρ k= .at g o n→U k:=fun k g o n hk=>by
  apply Classical.byContradiction
  intro hn
  rw [hr.Pm hn] at hk;cases hk
 have hcase:∀ k g o n,jk ρ ρ1 nm es.length k= .at g o n→(∃ i,k=nm+i∧i<es.length∧ρ1 (4+i)= .at g o n)∨ρ k= .at g o n:=fun k g o n hk=>by
  unfold jk at hk
  split at hk
  ·rename_i hh
   exact .inl ⟨k - nm,by omega,by omega,hk⟩
  ·exact .inr hk
 have hoff:∀ i g o n,i<es.length→ρ1 (4+i)= .at g o n→w.heap.size≤g∧g<w'.heap.size:=fun i g o n hi hl=>by
  obtain ⟨h1,h2⟩:=hr'.dV g ⟨_,o,n,hl⟩
  refine ⟨?_,h2⟩
  rcases h1 with h1|h1
  ·obtain ⟨b,o',n',hb⟩:=C'.BD g h1
   obtain ⟨h3,_,_⟩:=hr'.fix b _ hb
   have:=hr'.inj (4+i) b g o n o' n' hl h3
   have:=C'.Gi b _ hb
   omega
  ·rcases h1 with h1|h1
   ·exact (hgv g h1).elim
   ·rw [hw0] at h1;exact h1
 have hold:∀ k g o n,ρ k= .at g o n→g<w.heap.size:=fun k g o n hl=>(hr.dV g ⟨k,o,n,hl⟩).2
 have hsz:w.heap.size≤w'.heap.size:=by have:=hr'.size;rw [hw0] at this;exact this
 have hheap:∀ g,g<w.heap.size→(∀ b ∈ B,∀ o n,ρ b≠.at g o n)→w'.heap[g]? =w.heap[g]? :=fun g hg hb=>by
  have:=hr'.old g (by rw [hw0];exact hg) (fun he=>by
   obtain ⟨b,hbB,o,n,hl⟩:=(hext g).1 he
   exact hb b hbB o n hl) (hgv g)
  rw [hw0] at this;exact this
 have hown:∀ g,jZ (jk ρ ρ1 nm es.length) g→jZ ρ g∨(w.heap.size≤g∧g<w'.heap.size∧∃ i o n,i<es.length∧ρ1 (4+i)= .at g o n):=fun g ⟨k,o,n,hk⟩=>by
  rcases hcase k g o n hk with ⟨i,rfl,hi,hl⟩|hl
  ·have:=hoff i g o n hi hl
   exact .inr ⟨this.1,this.2,i,o,n,hi,hl⟩
  ·exact .inl ⟨k,o,n,hl⟩
 have hok:∀ g,aQ C ρ w g→aQ C (jk ρ ρ1 nm es.length) w' g:=fun g hg=>⟨hg.1,by have:=hg.2.1;omega,fun ho=>by
  rcases hown g ho with ho|ho
  ·exact hg.2.2 ho
  ·have:=hg.2.1;omega⟩
 have xU:∀ g,aQ C ρ w g→w'.heap[g]? =w.heap[g]? :=fun g hg=>hheap g hg.2.1 fun b _ o n hl=>hg.2.2 ⟨b,o,n,hl⟩
 have qQ:Later U ρ (jk ρ ρ1 nm es.length):=fun k hk=> .inl (Qr k hk)
 have Ze:∀ k,U k→Ej U nm es.length k:=fun k hk=> .inl hk
 refine ⟨⟨fun k o hk=> ?_,fun k hk=> ?_,fun k k' g o n o' n' h1 h2=> ?_,hr'.os.trans (by rw [hw0];exact hr.os),hr'.tape.trans (by rw [hw0];exact hr.tape),
  hr'.output.trans (by rw [hw0];exact hr.output),Nat.le_trans hr.size hsz,fun g hg he hv=> ?_,hr.lM,fun g ho=> ?_,fun b l hb=> ?_⟩,
  fun x u hx=>hx.mono hok xU Ze qQ⟩
 ·
  rw [get_append,jM] at hk
  by_cases hin:nm≤k∧k<nm+es.length
  ·have hi:k - nm<es.length:=by omega
   rw [if_pos hin.1,List.getElem?_eq_getElem hi] at hk
   cases hk
   refine ⟨.inr hin,?_⟩
   have e:jk ρ ρ1 nm es.length k=ρ1 (4+(k - nm)):=by unfold jk;rw [if_pos hin]
   rw [e]
   have hg:get (outs bs' es) (4+(k - nm))=some es[k - nm]:=GU (by omega) (List.getElem?_eq_getElem hi)
   obtain ⟨_,ho⟩:=hr'.hp _ _ hg
   have hro:=List.all_eq_true.1 hes es[k - nm] (List.getElem_mem hi)
   refine gZ.agQ hro ?_ ho
   rcases lV with lV|lV
   ·exact .inl lV
   ·exact .inr (lV.2 _ (List.getElem_mem hi))
  ·have hno:(if nm≤k then es[k - nm]? else none)=none:=by
    split
    ·exact List.getElem?_eq_none (by omega)
    ·rfl
   rw [hno] at hk
   simp only [get_append] at hk
   have e:jk ρ ρ1 nm es.length k=ρ k:=by unfold jk;rw [if_neg hin]
   rw [e]
   cases hbx:get (iJ B cs) k with
   |some o'=>
    rw [hbx] at hk;cases hk
    obtain ⟨i,c2,h1,h2,rfl⟩:=zG B cs k _ hbx
    obtain ⟨cs0,hb0⟩:=hB k (List.mem_of_getElem? h1)
    have vX:=(hr.hp k _ hb0).1
    refine ⟨.inl vX,?_⟩
    obtain ⟨c1,hc1,hrl⟩:=hrel i c2 h2
    have hg:get (outs bs' es) i=some (.box c1):=Cc hc1
    obtain ⟨_,ho⟩:=hr'.hp i _ hg
    have hl:=(hr'.fix i (ρ k) (by rw [hloc,h1];rfl)).1
    rw [hl] at ho
    obtain ⟨g,o,n,e,cells,h3,h4,h5,h6,h7⟩:=ho
    obtain ⟨hal,hag⟩:=GY c1 c2 hrl
    refine ⟨g,o,n,e,cells,h3,h4,h5,by omega,fun j c hj=> ?_⟩
    obtain ⟨x,hx⟩:∃ x,c1[j]? =some x:=⟨_,List.getElem?_eq_getElem (by rw [hal];exact (List.getElem?_eq_some_iff.1 hj).1)⟩
    obtain ⟨y,hy,hxy⟩:=hag j x hx
    rw [hj] at hy;cases hy
    obtain ⟨u,hu,hv⟩:=h7 j x hx
    refine ⟨u,hu,?_⟩
    rcases hxy with ⟨k',j',b,rfl,hk',rfl⟩|⟨rfl,hp⟩
    ·obtain ⟨_,a,rfl,had⟩:=hv.xE
     obtain ⟨csb,hbb⟩:=hB b (List.mem_of_getElem? hk')
     have Zf:=(hr.hp b _ hbb).1
     have hlb:=(hr'.fix k' (ρ b) (by rw [hloc,hk'];rfl)).1
     refine .ptr a (.inl Zf) ?_
     rw [Qr b Zf,←hlb]
     exact had
    ·rcases lV with lV|lV
     ·exact .p ((Zd hv hp).mono lV (fun _ _=>rfl))
     ·rw [lV.1] at hc1;simp at hc1
   |none=>
    rw [hbx] at hk
    simp only at hk
    obtain ⟨vX,ho⟩:=hr.hp k o hk
    refine ⟨.inl vX,gZ.mono hok xU Ze qQ (fun g o n hl=>hheap g (hold k g o n hl) fun b hb o' n' hb'=> ?_) ho⟩
    have:=hr.inj k b g o n o' n' hl hb'
    subst this
    exact GV B cs k hbx (hlen.symm.trans hlc) hb
 ·rw [get_append,jM] at hk
  have hin:¬ (nm≤k∧k<nm+es.length):=fun hh=>by
   rw [if_pos hh.1,List.getElem?_eq_getElem (show k - nm<es.length by omega)] at hk
   cases hk
  have hno:(if nm≤k then es[k - nm]? else none)=none:=by
   split
   ·exact List.getElem?_eq_none (by omega)
   ·rfl
  rw [hno] at hk
  simp only [get_append] at hk
  unfold jk
  rw [if_neg hin]
  cases hbx:get (iJ B cs) k with
  |some o'=>rw [hbx] at hk;cases hk
  |none=>rw [hbx] at hk;exact hr.hd k hk
 ·rcases hcase k g o n h1 with ⟨i,rfl,hi,hl⟩|hl<;>rcases hcase k' g o' n' h2 with ⟨i',rfl,hi',hl'⟩|hl'
  ·have:=hr'.inj _ _ g o n o' n' hl hl'
   omega
  ·have:=hoff i g o n hi hl
   have:=hold _ g o' n' hl'
   omega
  ·have:=hoff i' g o' n' hi' hl'
   have:=hold _ g o n hl
   omega
  ·exact hr.inj _ _ g o n o' n' hl hl'
 ·have hg':g<w.heap.size:=Nat.lt_of_lt_of_le hg hr.size
  rw [←hr.old g hg he hv]
  refine hheap g hg' fun b hb o n hl=> ?_
  rcases (hr.dV g ⟨b,o,n,hl⟩).1 with h1|h1
  ·exact he h1
  ·rcases h1 with h1|h1
   ·exact hv h1
   ·omega
 ·rcases hown g ho with ho|ho
  ·exact ⟨(hr.dV g ho).1,by have:=(hr.dV g ho).2;omega⟩
  ·exact ⟨.inr (.inr (by have:=hr.size;omega)),ho.2.1⟩
 ·obtain ⟨h1,h2,cs0,h3⟩:=hr.fix b l hb
  refine ⟨by rw [Qr b h2];exact h1,.inl h2,?_⟩
  have hin:¬ (nm≤b∧b<nm+es.length):=fun hh=>hfr b h2 ⟨hh.1,by omega⟩
  have hno:(if nm≤b then es[b - nm]? else none)=none:=by
   split
   ·exact List.getElem?_eq_none (by omega)
   ·rfl
  rw [get_append,jM,hno]
  simp only [get_append]
  cases hbx:get (iJ B cs) b with
  |some o'=>
   obtain ⟨i,cs',_,_,rfl⟩:=zG B cs b _ hbx
   exact ⟨cs',rfl⟩
  |none=>exact ⟨cs0,h3⟩
def Fn (P:Program) (f:FuncId) (xs:List AV) (bs:List (List AV)) (r:AV) (bs':List (List AV)) (es:List Ob):Prop:=
 Enters P f∧∀ (C:Ctx) (ρ:Nat→Loc) (U:Nat→Prop) (w:World) (vals:Array Value),HR C ρ U (je 0 bs) w→(∀ b,U b→b<4)→VL w (aQ C ρ w) ρ U xs vals→
  Calls P f vals w fun e w'=>∃ v ρ' U',e= .returned v∧HR C ρ' U' (outs bs' es) w'∧VR w' (aQ C ρ' w') ρ' U' r v
structure aA (P:Program) (f:FuncId) (sc:fZ) (res:List kW) (nt:Nat):Prop where
 fn:∃ fn c,P.funcs[f]? =some fn∧(fn.name== "runtime.NumGoroutine")=false∧fn.body=some c∧iR P c=some sc∧xR P fn.results.toList=some res∧
  fn.results.toList.length≤5∧fn.ntmps=nt
 ok:kD nt sc=true
 mixed:P.follows .mixedOrders=true
def qR:Nat→List AV→List (Nat×AV)
 |_,[]=>[]
 |k,x::l=>(k,x)::qR (k+1) l
theorem GZ:∀ (l:List AV) (k j:Nat),get (qR k l) j=if k≤j then l[j - k]? else none
 |[],k,j=>by simp [qR]
 |o::l,k,j=>by
  simp only [qR,get]
  by_cases e:k=j
  ·subst e;simp
  ·rw [if_neg e,GZ l (k+1) j]
   by_cases h:k≤j
   ·rw [if_pos h,if_pos (show k+1≤j by omega)]
    have:j - k=(j - (k+1))+1:=by omega
    rw [this,List.getElem?_cons_succ]
   ·rw [if_neg h,if_neg (by omega)]
def Fin (res:List kW) (r:AV) (bs':List (List AV)) (es:List Ob) (t:List (Nat×AV)) (h:List (Nat×Ob)):Prop:=
 ∃ S N xs,kX t h res=some xs∧okS h S N (outs bs' es)=true∧dJ h S N (outs bs' es) S∧ja (outs bs' es) N∧rv h S N r (ay xs)
def G5 (res:List kW) (r:AV) (bs':List (List AV)) (es:List Ob):Exit→St→Prop
 | .normal,s=>Fin res r bs' es s.t s.h
 | .ret,s=>Fin res r bs' es s.t s.h
 |_,_=>False
theorem Fn.aN {P:Program} {f:FuncId} {sc:fZ} {res:List kW} {nt:Nat} (hok:aA P f sc res nt) {xs:List AV} {bs:List (List AV)} {r:AV} {bs':List (List AV)} {es:List Ob}
 (hn:xs.length≤nt) (hgo:go P [.code sc] (G5 res r bs' es) 8 (qR 0 xs) (je 0 bs)):Fn P f xs bs r bs' es:=by
 obtain ⟨⟨fn,c,hf,hnm,hb,hs,hres,hr4,rfl⟩,hoc,hm⟩:=hok
 refine ⟨⟨fn,hf,hnm,by rw [hb];rfl⟩,fun C ρ U w vals hr hU hv=> ?_⟩
 let C1:Ctx:={C with nt:=fn.ntmps}
 have hr1:HR C1 ρ U (je 0 bs) w:=⟨hr.hp,hr.hd,hr.inj,hr.os,hr.tape,hr.output,hr.size,hr.old,hr.lM,hr.dV,hr.fix⟩
 refine calls_of_wp hf hb (zB (C:=C1) hm c sc hs hoc _ _ ⟨8,qR 0 xs,je 0 bs⟩ _ w ⟨ρ,U,⟨hr1,fun k x hk=> ?_,rfl,?_⟩,fun b hb=>by have:=hU b hb;simp only;omega⟩ hgo fun e s a w' hA hQ=> ?_)
 ·rw [GZ] at hk
  simp only [Nat.zero_le,if_true,Nat.sub_zero] at hk
  have hlt:k<vals.size:=by rw [←hv.1];exact (List.getElem?_eq_some_iff.1 hk).1
  refine ⟨vals[k],?_,hv.2 k x _ hk (Array.getElem?_eq_getElem hlt)⟩
  simp [Array.getElem?_append,hlt]
 ·have:=hv.1
  simp only [Array.size_append,Array.size_replicate]
  show _=fn.ntmps
  omega
 ·have fin:Fin res r bs' es s.t s.h→a.defers=[]∧∃ v,(results fn a.tmps).run P w'= .ok v w'∧∃ v_1 ρ' U',Ending.returned v=Ending.returned v_1∧HR C ρ' U' (outs bs' es) w'∧VR w' (aQ C ρ' w') ρ' U' r v_1:=fun hF=>by
   obtain ⟨S,N,ys,h1,h2,h3,h4,h5⟩:=hF
   obtain ⟨ρ1,U1,hS,_⟩:=hA
   obtain ⟨vs,h6,h7,h8,h9⟩:=Ei (P:=P) hS.hr hS.tm fn.results.toList res ys hres h1
   refine ⟨hS.defers,_,Qk a.tmps w' rfl h6 hr4 h8,_,fA ρ1 S N,mY S N,rfl,?_,?_⟩
   ·have:=BZ hS.hr h2 h3 h4
    exact ⟨this.hp,this.hd,this.inj,this.os,this.tape,this.output,this.size,this.old,this.lM,this.dV,this.fix⟩
   ·exact pM hS.hr (Ql (by omega) h9) r h5
  cases e with
  |normal=>exact fin hQ
  |ret=>exact fin hQ
  |exit i=>exact hQ.elim
  |goto l=>exact hQ.elim
  |panic ch=>exact hQ.elim
  |outgrown=>exact hQ.elim
end
end Go.Eng
namespace Go.Eng
open Go
def qU (h:List (Nat×Ob)) (A:List Nat):List Nat→List (List AV)→Prop
 |[],[]=>True
 |b::B,cs::bs=>(match get h b with
  |some (.box cs')=>jD A cs cs'
  |_=>False)∧qU h A B bs
 |_,_=>False
def sO (A:List Nat):List (List AV)→List (List AV)→Prop
 |[],[]=>True
 |x::l,y::l'=>jD A x y∧sO A l l'
 |_,_=>False
theorem Qs {A:List Nat}:∀ (xs ys:List (List AV)),sO A xs ys→xs.length=ys.length∧∀ (i:Nat) (y:List AV),ys[i]? =some y→∃ x,xs[i]? =some x∧jD A x y
 |[],[],_=>⟨rfl,fun i b h=>by simp at h⟩
 |x::xs,y::ys,h=>by
  simp only [sO] at h
  obtain ⟨h1,h2⟩:=Qs xs ys h.2
  refine ⟨by simp [h1],fun i c hc=> ?_⟩
  cases i with
  |zero=>simp at hc;subst hc;exact ⟨x,rfl,h.1⟩
  |succ i=>simpa using h2 i c (by simpa using hc)
 |[],_::_,h=>by simp [sO] at h
 |_::_,[],h=>by simp [sO] at h
def zL:List (List AV)→Bool
 |[]=>true
 |cs::l=>dM cs&&zL l
theorem Zg {h:List (Nat×Ob)} {A:List Nat}:∀ (B:List Nat) (bs:List (List AV)),qU h A B bs→B.length=bs.length∧∀ (i b:Nat),B[i]? =some b→∃ cs cs',bs[i]? =some cs∧get h b=some (.box cs')∧jD A cs cs'
 |[],[],_=>⟨rfl,fun i b h=>by simp at h⟩
 |b::B,cs::bs,h=>by
  simp only [qU] at h
  obtain ⟨h1,h2⟩:=Zg B bs h.2
  refine ⟨by simp [h1],fun i c hc=> ?_⟩
  cases i with
  |zero=>
   simp at hc;subst hc
   obtain ⟨h3,_⟩:=h
   split at h3
   ·rename_i cs' hg;exact ⟨cs,cs',rfl,hg,h3⟩
   ·exact h3.elim
  |succ i=>simpa using h2 i c (by simpa using hc)
 |[],_::_,h=>by simp [qU] at h
 |_::_,[],h=>by simp [qU] at h
section
variable {P:Program} {f:FuncId} {xs ys:List AV} {bs bs':List (List AV)} {r:AV} {es:List Ob} {nm:Nat} {h:List (Nat×Ob)} {B:List Nat}
def pY (ρ:Nat→Loc) (B:List Nat) (i:Nat):Loc:=match B[i]? with
 |some b=>ρ b
 |none=> .dead
theorem Fn.vY (hF:Fn P f xs bs r bs' es) (nm:Nat) (B:List Nat) (cs':List (List AV)) (ha:jD B xs ys) (hb:qU h B B bs) (hB4:B.length≤4) (hnd:B.Nodup) (hlen:bs'.length=B.length) (hp:sO B bs' cs')
 (hes:es.all rowOk=true) (hm:es.length≤8) (hx:fM es.length r=true):
 lQ P nm f ys h ⟨sh nm r,dP nm es++iJ B cs',B⟩:=by
 intro h' hh' Q hQ
 refine ⟨hF.1,fun C ρ U w vals hr hfr hvl=> ?_⟩
 obtain ⟨hl,hb'⟩:=Zg B bs hb
 have hbx:∀ (i b:Nat),B[i]? =some b→∃ cs cs',bs[i]? =some cs∧get h' b=some (.box cs')∧jD B cs cs':=fun i b hib=>by
  obtain ⟨cs,cs',h1,h2,h3⟩:=hb' i b hib
  exact ⟨cs,cs',h1,by rw [hh' b (List.mem_of_getElem? hib)];exact h2,h3⟩
 let C':Ctx:=⟨w,aQ C ρ w,(fun g=>∃ b ∈ B,∃ o n,ρ b=Loc.at g o n),(fun i=>(B[i]?).map ρ),0,(fun g hg=>by
  obtain ⟨b,hbB,o,n,hl⟩:=hg
  obtain ⟨i,hi⟩:=List.mem_iff_getElem?.1 hbB
  exact ⟨i,o,n,by simp [hi,hl]⟩),(fun i l hl=>by
  rcases Nat.lt_or_ge i B.length with h1|h1
  ·omega
  ·simp [List.getElem?_eq_none h1] at hl),(fun _=>False),(fun _ h=>h.elim)⟩
 have hbl:∀ (i b:Nat),B[i]? =some b→pY ρ B i=ρ b:=fun i b hib=>by simp [pY,hib]
 have hown:∀ g,jZ (pY ρ B) g→∃ b ∈ B,∃ o n,ρ b= .at g o n:=fun g ⟨i,o,n,hi⟩=>by
  unfold pY at hi
  split at hi
  ·rename_i b hib;exact ⟨b,List.mem_of_getElem? hib,o,n,hi⟩
  ·cases hi
 have hok:∀ g,aQ C ρ w g→aQ C' (pY ρ B) w g:=fun g hg=>⟨.inl hg,hg.2.1,fun ho=>by
  obtain ⟨b,_,o,n,hb⟩:=hown g ho
  exact hg.2.2 ⟨b,o,n,hb⟩⟩
 have hpure:∀ {x:AV} {u:Value},x.pure=true→VR w (aQ C ρ w) ρ U x u→VP w (aQ C' (pY ρ B) w) x u:=fun hx hv=>(Zd hv hx).mono hok (fun _ _=>rfl)
 have hr0:HR C' (pY ρ B) (fun i=>i<B.length) (je 0 bs) w:=by
  refine ⟨fun i o hi=> ?_,fun i hi=> ?_,fun i i' g o n o' n' h1 h2=> ?_,rfl,rfl,rfl,Nat.le_refl _,fun g _ _ _=>rfl,fun g hg=>⟨hg.2.1,fun ⟨b,_,o,n,hb⟩=>hg.2.2 ⟨b,o,n,hb⟩,fun h=>h⟩,
   fun g ho=> ?_,fun i l hi=> ?_⟩
  ·simp only [je,jM,Nat.zero_le,if_true,Nat.sub_zero,List.getElem?_map] at hi
   have hlt:i<B.length:=by
    rcases Nat.lt_or_ge i B.length with h1|h1
    ·exact h1
    ·rw [List.getElem?_eq_none (by omega)] at hi;cases hi
   refine ⟨hlt,?_⟩
   have hib:B[i]? =some B[i]:=List.getElem?_eq_getElem hlt
   obtain ⟨cs,cs1,h1,h2,h3⟩:=hbx i _ hib
   rw [h1] at hi
   cases hi
   rw [hbl i _ hib]
   obtain ⟨_,g,o,n,e,cells,h4,h5,h6,h7,h8⟩:=hr.hp _ _ h2
   obtain ⟨hal,hag⟩:=GY cs cs1 h3
   refine ⟨g,o,n,e,cells,h4,h5,h6,by omega,fun j c hj=> ?_⟩
   obtain ⟨y,hy,hxy⟩:=hag j c hj
   obtain ⟨u,hu,hv⟩:=h8 j y hy
   refine ⟨u,hu,?_⟩
   rcases hxy with ⟨k,j',b,rfl,hk,rfl⟩|⟨rfl,hp⟩
   ·obtain ⟨_,a,rfl,had⟩:=hv.xE
    have hlt:k<B.length:=(List.getElem?_eq_some_iff.1 hk).1
    exact .ptr a hlt (by rw [hbl k b hk];exact had)
   ·exact .p (hpure hp hv)
  ·simp only [je,jM,Nat.zero_le,if_true,Nat.sub_zero,List.getElem?_map] at hi
   have:B[i]? =none:=by
    rcases Nat.lt_or_ge i B.length with h1|h1
    ·rw [List.getElem?_eq_getElem (show i<bs.length by omega)] at hi;cases hi
    ·exact List.getElem?_eq_none h1
   simp [pY,this]
  ·have key:∀ i g o n,pY ρ B i= .at g o n→∃ b,B[i]? =some b∧ρ b= .at g o n:=fun i g o n hi=>by
    unfold pY at hi
    split at hi
    ·rename_i b hib;exact ⟨b,hib,hi⟩
    ·cases hi
   obtain ⟨b,hib,hl1⟩:=key i g o n h1
   obtain ⟨b',agR,hl2⟩:=key i' g o' n' h2
   have e:=hr.inj b b' g o n o' n' hl1 hl2
   subst e
   obtain ⟨p1,q1⟩:=List.getElem?_eq_some_iff.1 hib
   obtain ⟨p2,q2⟩:=List.getElem?_eq_some_iff.1 agR
   exact (List.getElem_inj hnd).1 (q1.trans q2.symm)
  ·obtain ⟨b,hbB,o,n,hb⟩:=hown g ho
   exact ⟨.inl ⟨b,hbB,o,n,hb⟩,(hr.dV g ⟨b,o,n,hb⟩).2⟩
  ·have hlt:i<B.length:=by
    rcases Nat.lt_or_ge i B.length with h1|h1
    ·exact h1
    ·simp [C',List.getElem?_eq_none h1] at hi
   have hib:B[i]? =some B[i]:=List.getElem?_eq_getElem hlt
   obtain ⟨cs,cs1,h1,h2,h3⟩:=hbx i _ hib
   refine ⟨?_,hlt,cs,?_⟩
   ·rw [hbl i _ hib]
    simp only [C',hib,Option.map_some,Option.some.injEq] at hi
    exact hi
   ·simp [je,jM,h1]
 obtain ⟨hal,hag⟩:=GY xs ys ha
 have zN:VL w (aQ C' (pY ρ B) w) (pY ρ B) (fun i=>i<B.length) xs vals:=by
  refine ⟨by rw [hal];exact hvl.1,fun i x u hi hu=> ?_⟩
  obtain ⟨y,hy,hxy⟩:=hag i x hi
  have hv:=hvl.2 i y u hy hu
  rcases hxy with ⟨k,j,b,rfl,hk,rfl⟩|⟨rfl,hp⟩
  ·obtain ⟨_,a,rfl,had⟩:=hv.xE
   have hlt:k<B.length:=(List.getElem?_eq_some_iff.1 hk).1
   exact .ptr a hlt (by rw [hbl k b hk];exact had)
  ·exact .p (hpure hp hv)
 refine (hF.2 C' (pY ρ B) (fun i=>i<B.length) w vals hr0 (fun b hb=>by omega) zN).mono fun e w' hpost=> ?_
 obtain ⟨v,ρ1,U1,rfl,hr1,hv1⟩:=hpost
 have lV:∀ g,aQ C' ρ1 w' g→aQ C (jk ρ ρ1 nm es.length) w' g:=fun g hg=>by
  have hno:¬ ∃ i o n,i<es.length∧ρ1 (4+i)= .at g o n:=fun ⟨i,o,n,_,hi⟩=>hg.2.2 ⟨_,o,n,hi⟩
  have hcase:jZ (jk ρ ρ1 nm es.length) g→jZ ρ g:=fun ⟨k,o,n,hk⟩=>by
   unfold jk at hk
   split at hk
   ·exact absurd ⟨k - nm,o,n,by omega,hk⟩ hno
   ·exact ⟨k,o,n,hk⟩
  refine ⟨?_,hg.2.1,fun ho=> ?_⟩
  ·rcases hg.1 with h1|h1
   ·exact h1.1
   ·right;have:=hr.size;exact .inr (Nat.le_trans this (h1.resolve_left fun h=>h))
  ·have ho':=hcase ho
   rcases hg.1 with h1|h1
   ·exact h1.2.2 ho'
   ·have:=(hr.dV g ho').2
    have h1':w.heap.size≤g:=h1.resolve_left fun h=>h
    omega
 obtain ⟨hR,hkeep⟩:=back (C':=C') (nm:=nm) hr rfl (fun g=>Iff.rfl) (fun i=>rfl) hr1 (fun b hb=>by
  obtain ⟨i,hi⟩:=List.mem_iff_getElem?.1 hb
  obtain ⟨_,cs,_,h2,_⟩:=hbx i b hi
  exact ⟨cs,h2⟩) hlen hB4 hes hm (Qs bs' cs' hp).1 (Qs bs' cs' hp).2 hfr (fun _ h=>h) (.inl lV)
 refine ⟨v,sh nm r,_,jk ρ ρ1 nm es.length,Ej U nm es.length,rfl,hR,?_,hkeep,fun b hb=> ?_,?_⟩
 ·refine VR.sh lV (fun i hi=> ?_) (fun i hi=> .inr ⟨by omega,by omega⟩) hv1 hx
  unfold jk
  rw [if_pos ⟨by omega,by omega⟩]
  congr 2;omega
 ·rcases hb with hb|hb
  ·exact .inl hb
  ·exact .inr ⟨hb.1,by omega⟩
 ·simpa [List.append_assoc] using hQ
theorem lQ.use {ys:List AV} {x:Rec} (hc:lQ P nm f ys h x) {Q:AV→List (Nat×Ob)→Prop} (hQ:Q x.val (x.upd++h)):uy P nm f ys h Q:=hc h (fun _ _=>rfl) Q hQ
mutual
def deep:AV→List Nat
 | .own b _ _ _=>[b]
 | .ptr b _=>[b]
 | .rp b _ _ _=>[b]
 | .mp b=>[b]
 | .agg cs=>dR cs
 | .aF cs=>dR cs
 | .fn _ cs=>dR cs
 |_=>[]
def dR:List AV→List Nat
 |[]=>[]
 |c::cs=>deep c++dR cs
end
mutual
theorem agS {h h':List (Nat×Ob)}:∀ (x y:AV),(∀ b ∈ deep y,get h' b=get h b)→rv h [] [] x y→rv h' [] [] x y
 | .own ..,y,_,hx=>by unfold rv at hx ⊢;exact hx
 | .ptr ..,y,_,hx=>by unfold rv at hx ⊢;exact hx
 | .rp ..,y,_,hx=>by unfold rv at hx ⊢;exact hx
 | .mp ..,y,_,hx=>by unfold rv at hx ⊢;exact hx
 | .v _,y,_,hx=>by unfold rv at hx ⊢;exact hx
 | .sl sz ys,y,hh,hx=>by
  cases y with
  |own b sz' off len=>
   simp only [deep,List.mem_singleton,forall_eq] at hh
   simp only [rv,hh] at hx ⊢;exact hx
  |v a=>
   unfold rv at hx ⊢
   split at hx
   ·rename_i e;cases e
   ·rename_i e;cases e;exact hx
   ·rename_i e;cases e
   ·exact hx.elim
  |_=>simp only [rv] at hx ⊢<;>exact hx
 | .dU cs j,y,hh,hx=>by
  cases y with
  |rp b sz i j'=>
   simp only [deep,List.mem_singleton,forall_eq] at hh
   simp only [rv,hh] at hx ⊢;exact hx
  |_=>simp only [rv] at hx ⊢<;>exact hx
 | .agg ys,y,hh,hx=>by
  cases y<;>unfold rv at hx ⊢<;>try exact hx
  exact Em ys _ (by simpa only [deep] using hh) hx
 | .aF ys,y,hh,hx=>by
  cases y<;>unfold rv at hx ⊢<;>try exact hx
  exact Em ys _ (by simpa only [deep] using hh) hx
 | .fn f ys,y,hh,hx=>by
  cases y<;>unfold rv at hx ⊢<;>try exact hx
  exact ⟨hx.1,Em ys _ (by simpa only [deep] using hh) hx.2⟩
theorem Em {h h':List (Nat×Ob)}:∀ (xs ys:List AV),(∀ b ∈ dR ys,get h' b=get h b)→au h [] [] xs ys→au h' [] [] xs ys
 |[],[],_,_=>by simp only [au]
 |x::xs,y::ys,hh,hx=>by
  simp only [au] at hx ⊢
  simp only [dR,List.mem_append] at hh
  exact ⟨agS x y (fun b hb=>hh b (.inl hb)) hx.1,Em xs ys (fun b hb=>hh b (.inr hb)) hx.2⟩
 |[],_::_,_,hx=>by simp only [au] at hx
 |_::_,[],_,hx=>by simp only [au] at hx
end
theorem agT {C:Ctx} {ρ:Nat→Loc} {U:Nat→Prop} {w:World} {vals:Array Value} (hr:HR C ρ U h w) (hv:VL w (aQ C ρ w) ρ U ys vals) (hx:au h [] [] xs ys):
 VL w (aQ C (fA ρ [] []) w) (fA ρ [] []) (mY [] []) xs vals:=by
 have hl:=jB _ _ hx
 refine ⟨by rw [hl];exact hv.1,fun i x u hi hu=> ?_⟩
 obtain ⟨y,hy,hxy⟩:=jC _ _ hx i x hi
 exact pM hr (hv.2 i y u hy hu) x hxy
theorem Fn.En (hF:Fn P f xs [] r [] es) (nm:Nat) (ha:au h [] [] xs ys) (hes:es.all rowOk=true) (hna:∀ o ∈ es,oC o) (hm:es.length≤8) (hx:fM es.length r=true) (hr0:na r=true):
 lQ P nm f ys h ⟨sh nm r,dP nm es,dR ys⟩:=by
 intro h' hh' Q hQ
 refine ⟨hF.1,fun C ρ U w vals hr hfr hvl=> ?_⟩
 have ha':=Em xs ys hh' ha
 have hd:∀ g,¬ jZ (fA ρ [] []) g:=fun g ⟨k,o,n,hk⟩=>by simp [fA,get] at hk
 let C':Ctx:=⟨w,aQ C (fA ρ [] []) w,(fun _=>False),(fun _=>none),0,(fun g hg=>hg.elim),(fun i l hl=>by cases hl),(fun _=>False),(fun _ h=>h.elim)⟩
 have hok:∀ g,aQ C (fA ρ [] []) w g→aQ C' (fA ρ [] []) w g:=fun g hg=>⟨.inl hg,hg.2.1,hg.2.2⟩
 have hrc:HR C' (fA ρ [] []) (mY [] []) (je 0 []) w:=by
  refine ⟨fun i o hi=>by simp [je,dP,get] at hi,fun i _=>by simp [fA,get],fun i i' g o n o' n' h1 _=>absurd ⟨i,o,n,h1⟩ (hd g),rfl,rfl,rfl,Nat.le_refl _,
   fun g _ _ _=>rfl,fun g hg=>⟨hg.2.1,fun h=>h.elim,fun h=>h⟩,fun g ho=>absurd ho (hd g),fun i l hi=>by cases hi⟩
 have zN:=agT hr hvl ha'
 have agU:VL w (aQ C' (fA ρ [] []) w) (fA ρ [] []) (mY [] []) xs vals:=zN.mono hok (fun _ _=>rfl) (fun _ h=>h) (fun _ _=> .inl rfl)
 refine (hF.2 C' _ _ w vals hrc (fun b hb=>by simp [mY] at hb) agU).mono fun e w' hpost=> ?_
 obtain ⟨v,ρ1,U1,rfl,hr1,hv1⟩:=hpost
 obtain ⟨hR,hkeep⟩:=back (C':=C') (B:=[]) (nm:=nm) hr rfl (fun g=>by simp [C']) (fun i=>by simp [C']) hr1 (fun b hb=>by simp at hb) rfl (by simp) hes hm (cs:=[]) rfl (fun i cs h=>by simp at h) hfr (fun _ h=>h) (.inr ⟨rfl,hna⟩)
 refine ⟨v,sh nm r,_,jk ρ ρ1 nm es.length,Ej U nm es.length,rfl,hR,?_,hkeep,fun b hb=> ?_,?_⟩
 ·refine VR.aeZ (fun i hi=> ?_) (fun i hi=> .inr ⟨by omega,by omega⟩) hv1 hx hr0
  unfold jk
  rw [if_pos ⟨by omega,by omega⟩]
  congr 2;omega
 ·rcases hb with hb|hb
  ·exact .inl hb
  ·exact .inr ⟨hb.1,by omega⟩
 ·simpa [iJ] using hQ
mutual
theorem Zh {S:List (Nat×Nat)} {N:List Nat}:∀ (x:AV),x.pure=true→rv h S N x x
 | .v a,_=>by simp only [rv]
 | .sl sz xs,_=>by simp only [rv,and_self]
 | .dU cs j,_=>by simp only [rv,and_self]
 | .agg cs,hx=>by simp only [rv];exact xW cs (by simpa only [AV.pure] using hx)
 | .aF cs,hx=>by simp only [rv];exact xW cs (by simpa only [AV.pure] using hx)
 | .fn f cs,hx=>by simp only [rv,true_and];exact xW cs (by simpa only [AV.pure] using hx)
 | .own ..,hx=>by simp [AV.pure] at hx
 | .ptr ..,hx=>by simp [AV.pure] at hx
 | .rp ..,hx=>by simp [AV.pure] at hx
 | .mp ..,hx=>by simp [AV.pure] at hx
theorem xW {S:List (Nat×Nat)} {N:List Nat}:∀ (xs:List AV),dM xs=true→au h S N xs xs
 |[],_=>by simp only [au]
 |x::xs,hx=>by
  simp only [dM,Bool.and_eq_true] at hx
  simp only [au]
  exact ⟨Zh x hx.1,xW xs hx.2⟩
end
theorem Zi {S:List (Nat×Nat)} {N:List Nat} {x y:AV} (he:x=y) (hp:y.pure=true):rv h S N x y:=he▸Zh _ (he▸hp)
theorem Fin.mk0 {res:List kW} {r:AV} {t:List (Nat×AV)} (xs:List AV) (h1:kX t h res=some xs) (h2:okS h [] [] []=true) (h3:rv h [] [] r (ay xs)):Fin res r [] [] t h:=
 ⟨[],[],xs,h1,h2,by simp only [dJ],by simp only [ja],h3⟩
theorem Fin.bQ {res:List kW} {r:AV} {t:List (Nat×AV)} (xs:List AV) (h1:kX t h res=some xs) (h2:okS h [] [] []=true) (h3:(ay xs).pure=true) (h4:r=ay xs):Fin res r [] [] t h:=
 Fin.mk0 xs h1 h2 (Zi h4 h3)
theorem Eo (nm:Nat):∀ (x:AV),x.pure=true→sh nm x=x:=by
 intro x
 refine AV.rec (motive_1:=fun x=>x.pure=true→sh nm x=x) (motive_2:=fun xs=>dM xs=true→lU nm xs=xs) (motive_3:=fun _=>True)
  ?_ ?_ ?_ ?_ ?_ ?_ ?_ ?_ ?_ ?_ ?_ ?_ ?_ ?_ x
 ·intro v _;simp only [sh]
 ·intro cs ih hx;simp only [sh];rw [ih (by simpa only [AV.pure] using hx)]
 ·intro cs ih hx;simp only [sh];rw [ih (by simpa only [AV.pure] using hx)]
 ·intro sz xs _ _;simp only [sh]
 ·intro b sz off len hx;simp [AV.pure] at hx
 ·intro b j hx;simp [AV.pure] at hx
 ·intro b sz k j hx;simp [AV.pure] at hx
 ·intro cs j _ _;simp only [sh]
 ·intro b hx;simp [AV.pure] at hx
 ·intro f cs ih hx;simp only [sh];rw [ih (by simpa only [AV.pure] using hx)]
 ·intro _;simp only [lU]
 ·intro c cs ih1 ih2 hx
  simp only [dM,Bool.and_eq_true] at hx
  simp only [lU];rw [ih1 hx.1,ih2 hx.2]
 ·trivial
 ·intros;trivial
mutual
theorem Ce {m:Nat}:∀ (x:AV),x.pure=true→fM m x=true
 | .v a,_=>by simp only [fM]
 | .sl sz xs,_=>by simp only [fM]
 | .dU cs j,_=>by simp only [fM]
 | .agg cs,hx=>by simp only [fM];exact G6 cs (by simpa only [AV.pure] using hx)
 | .aF cs,hx=>by simp only [fM];exact G6 cs (by simpa only [AV.pure] using hx)
 | .fn f cs,hx=>by simp only [fM];exact G6 cs (by simpa only [AV.pure] using hx)
 | .own ..,hx=>by simp [AV.pure] at hx
 | .ptr ..,hx=>by simp [AV.pure] at hx
 | .rp ..,hx=>by simp [AV.pure] at hx
 | .mp ..,hx=>by simp [AV.pure] at hx
theorem G6 {m:Nat}:∀ (xs:List AV),dM xs=true→ou m xs=true
 |[],_=>by simp only [ou]
 |x::xs,hx=>by
  simp only [dM,Bool.and_eq_true] at hx
  simp only [ou,Bool.and_eq_true]
  exact ⟨Ce x hx.1,G6 xs hx.2⟩
end
theorem zO {A:List Nat}:∀ (xs:List AV),dM xs=true→jD A xs xs
 |[],_=>by simp only [jD]
 |x::xs,hx=>by
  simp only [dM,Bool.and_eq_true] at hx
  simp only [jD]
  refine ⟨?_,zO xs hx.2⟩
  split
  ·simp [AV.pure] at hx
  ·exact ⟨rfl,hx.1⟩
theorem G7 {A:List Nat}:∀ (l:List (List AV)),zL l=true→sO A l l
 |[],_=>by simp only [sO]
 |x::xs,hx=>by
  simp only [zL,Bool.and_eq_true] at hx
  simp only [sO]
  exact ⟨zO x hx.1,G7 xs hx.2⟩
theorem Fn.G8 (hF:Fn P f xs [] r [] []) (hp:dM xs=true) (hr:r.pure=true):lQ P nm f xs h ⟨r,[],[]⟩:=by
 have:=hF.vY (h:=h) nm [] [] (zO xs hp) (by simp only [qU]) (by simp) (by simp) rfl (by simp only [sO]) rfl (by simp) (Ce r hr)
 rw [Eo nm r hr] at this
 exact this
theorem Fn.Zj (hF:Fn P f xs [] r [] []) (ha:au h [] [] xs ys) (hr:r.pure=true) (hn:na r=true):lQ P nm f ys h ⟨r,[],dR ys⟩:=by
 have:=hF.En (h:=h) nm ha rfl (by simp) (by simp) (Ce r hr) hn
 rw [Eo nm r hr] at this
 exact this
theorem aO {k:List It} {Q:Exit→St→Prop} {n n':Nat} {t:List (Nat×AV)} {d:Option Nat} {l:List aC} (hF:Fn P f xs [] r [] []) (hp:dM xs=true) (hr:r.pure=true)
 (hk:go P (.ops (nm+8) n' l::k) Q n (bU t d r) h):pU P nm f xs d n' l k Q n t h:=zJ (hF.G8 hp hr) hk
theorem dh {k:List It} {Q:Exit→St→Prop} {n n':Nat} {t:List (Nat×AV)} {d:Option Nat} {l ops:List aC} {acc:List bW} (hF:Fn P f xs [] r [] []) (hp:dM xs=true) (hr:r.pure=true)
 (hk:go P (.dF (nm+8) n' l ops (([],[])::acc)::k) Q n (bU t d r) h):pW P nm f xs d n' l ops acc k Q n t h:=zK (hF.G8 hp hr) hk
theorem Fin.mk1 {res:List kW} {r:AV} {t:List (Nat×AV)} {cs cs':List AV} (xs:List AV) (h1:kX t h res=some xs) (hb:get h 0=some (.box cs)) (h2:okS h [(0,0)] [] [(0,.box cs')]=true)
 (h3:au h [(0,0)] [] cs' cs) (h4:rv h [(0,0)] [] r (ay xs)):Fin res r [cs'] [] t h:=by
 have e:outs [cs'] []=[(0,.box cs')]:=rfl
 refine ⟨[(0,0)],[],xs,h1,by rw [e];exact h2,?_,by simp only [ja],h4⟩
 rw [e]
 simp only [dJ,get,if_true,hb,and_true,cO]
 exact h3
theorem Fin.oD {res:List kW} {r:AV} {t:List (Nat×AV)} {cs cs':List AV} (xs:List AV) (h1:kX t h res=some xs) (hb:get h 0=some (.box cs)) (h2:okS h [(0,0)] [] [(0,.box cs)]=true)
 (h3:(ay xs).pure=true) (h4:dM cs=true) (h5:cs'=cs) (h6:r=ay xs):Fin res r [cs'] [] t h:=by
 subst h5
 exact Fin.mk1 xs h1 hb h2 (xW _ h4) (Zi h6 h3)
theorem fC {k:List It} {Q:Exit→St→Prop} {n n':Nat} {t:List (Nat×AV)} {d:Option Nat} {l:List aC} {b:Nat} {cs cs':List AV} (hF:Fn P f xs [cs] r [cs'] []) (ha:jD [b] xs ys)
 (hb:get h b=some (.box cs)) (hp:dM cs=true) (hp':dM cs'=true) (hr:r.pure=true) (hk:go P (.ops (nm+8) n' l::k) Q n (bU t d r) ((b,.box cs')::h)):pU P nm f ys d n' l k Q n t h:=by
 have:=hF.vY (h:=h) nm [b] [cs'] ha (by simp only [qU,and_true,hb];exact zO cs hp) (by simp) (by simp) rfl (G7 [cs'] (by simp only [zL,hp',Bool.and_true])) rfl (by simp) (Ce r hr)
 rw [Eo nm r hr] at this
 exact zJ this hk
theorem vZ {k:List It} {Q:Exit→St→Prop} {n n':Nat} {t:List (Nat×AV)} {d:Option Nat} {l ops:List aC} {acc:List bW} {b:Nat} {cs cs':List AV} (hF:Fn P f xs [cs] r [cs'] []) (ha:jD [b] xs ys)
 (hb:get h b=some (.box cs)) (hp:dM cs=true) (hp':dM cs'=true) (hr:r.pure=true) (hk:go P (.dF (nm+8) n' l ops (([b],[b])::acc)::k) Q n (bU t d r) ((b,.box cs')::h)):
 pW P nm f ys d n' l ops acc k Q n t h:=by
 have:=hF.vY (h:=h) nm [b] [cs'] ha (by simp only [qU,and_true,hb];exact zO cs hp) (by simp) (by simp) rfl (G7 [cs'] (by simp only [zL,hp',Bool.and_true])) rfl (by simp) (Ce r hr)
 rw [Eo nm r hr] at this
 exact zK this hk
end
end Go.Eng
namespace Go.Eng
open Go
theorem agV (x:Value):(AV.v x).one=x.oneCell':=rfl
theorem agW (cs:List AV):(AV.agg cs).one=false:=rfl
theorem agX (cs:List AV):(AV.aF cs).one=false:=rfl
theorem agY (sz:Nat) (xs:List (List AV)):(AV.sl sz xs).one=true:=rfl
theorem agZ (b sz off len:Nat):(AV.own b sz off len).one=true:=rfl
theorem ag0 (b j:Nat):(AV.ptr b j).one=true:=rfl
theorem ag1 (b sz k j:Nat):(AV.rp b sz k j).one=true:=rfl
theorem ag2 (cs:List AV) (j:Nat):(AV.dU cs j).one=true:=rfl
theorem ag6 (b:Nat):(AV.mp b).one=true:=rfl
theorem ag7 (f:FuncId) (cs:List AV):(AV.fn f cs).one=true:=rfl
attribute [go_sem] agV agW agX agY agZ ag0 ag1 ag2 ag6 ag7
attribute [go_sem] ae0 Qn go_skip Qo go_ret ae1 ae2 Qp
attribute [go_sem] ae3 ae4 Qq GX go_region ae5 ae6 ae7
attribute [go_sem] ae8 ae9 afa afb afc afd afe aff
attribute [go_sem] afg afh afi afj afk afl afm afn
attribute [go_sem] afo afp afq afr afs aft afu afv
attribute [go_sem] afw afx afy afz afA afB afC afD
attribute [go_sem] afE afF afG afH afI afJ afK afL afM
attribute [go_sem] afN go_call afO afP afQ afR afS afT
attribute [go_sem] afU afV afW afX afY afZ af0 af2
attribute [go_sem] af4 af5 af6 af7 af8 af9 aga agb
attribute [go_sem] agc agd agf agh agi agj agk agl
attribute [go_sem] agm agn agp agq agr ags agt agu
attribute [go_sem] agv agw agx agy agz agA agB agC agD
attribute [go_sem] agE agF Zc agG agH agI agJ agK
attribute [go_sem] agL agM agN agO agP
attribute [go_sem] eff ev kS get E.ok bU cellsA qN
attribute [go_sem] Value.oneCell' lN oh BG vN vO uq pF pz vS Gl vP fH Gj DW sH
attribute [go_sem] splice ku dM AV.pure kT xI zn bound
attribute [go_sem] bytesOf uw xH dO gK AV.lS qR je
attribute [go_sem] dP iJ kX ay sh lU G5 au
attribute [go_sem] outs pK jD qU zL gU dJ ja
attribute [go_sem] cO fM ou na kG rowOk deep dR
attribute [go_sem] get_nil
attribute [go_sem] true_and and_true List.append_nil List.nil_append List.cons_append List.length_cons List.length_nil List.map_cons
attribute [go_sem] List.map_nil Bool.and_true Bool.and_self Bool.not_true Bool.not_false Bool.false_eq_true Bool.true_and List.getElem?_cons_zero
attribute [go_sem] List.getElem?_cons_succ Nat.succ_eq_add_one Nat.zero_add Nat.add_zero List.take_zero List.drop_zero List.take_succ_cons List.drop_succ_cons
attribute [go_sem] List.take_nil List.drop_nil
end Go.Eng
namespace Go.Eng
open Go Go.RowKit
def Arg (w:World) (x:AV) (u:Value):Prop:=VP w (fun g=>g<w.heap.size) x u
theorem Fn.said {P:Program} {f:FuncId} {xs:List AV} {v:Value} (hF:Fn P f xs [] (.v v) [] []) (w:World) (vals:Array Value) (hl:xs.length=vals.size)
 (hv:∀ (i:Nat) (x:AV) (u:Value),xs[i]? =some x→vals[i]? =some u→Arg w x u):Calls P f vals w fun e w'=>e= .returned v∧Below w.heap.size w w':=by
 let C:Ctx:=⟨w,fun g=>g<w.heap.size,fun _=>False,fun _=>none,0,fun _ h=>h.elim,(fun _ _ h=>by cases h),(fun _=>False),fun _ h=>h.elim⟩
 have hno:∀ g,¬ jZ (fun _:Nat=>Loc.dead) g:=fun g ⟨b,o,n,h⟩=>by cases h
 have hr:HR C (fun _=> .dead) (fun _=>False) (je 0 []) w:=by
  refine ⟨fun b o h=> ?_,fun _ _=>rfl,fun b b' g o n o' n' h=> ?_,rfl,rfl,rfl,Nat.le_refl _,fun _ _ _ _=>rfl,fun g h=>⟨h,(fun h=>h),fun h=>h⟩,fun g h=>(hno g h).elim,fun b l h=> ?_⟩
  ·cases h
  ·cases h
  ·cases h
 refine (hF.2 C (fun _=> .dead) (fun _=>False) w vals hr (fun b h=>h.elim) ⟨hl,fun i x u h1 h2=> .p ((hv i x u h1 h2).mono (fun g hg=>⟨.inl hg,hg,hno g⟩) (fun _ _=>rfl))⟩).mono fun e w' h=> ?_
 obtain ⟨v',ρ',U',rfl,h1,h2⟩:=h
 obtain rfl:=h2.dQ
 refine ⟨rfl,h1.os,h1.tape,h1.output,h1.size,fun k hk=>h1.old k hk (fun h=>h) fun h=>h⟩
end Go.Eng
namespace Go.Eng
open Go
def stay (h:List (Nat×Ob)) (Z:List Nat):List (Nat×Nat):=((h.map Prod.fst).filter fun k=> !Z.contains k).map fun k=>(k,k)
def kills (Z:List Nat):List (Nat×Ob):=Z.map fun k=>(k,Ob.dead)
theorem Cf (h:List (Nat×Ob)) (Z:List Nat) (k:Nat):get (stay h Z) k=if k ∈ h.map Prod.fst∧k ∉ Z then some k else none:=by
 unfold stay
 induction h with
 |nil=>simp [get]
 |cons p h ih=>
  obtain ⟨j,o⟩:=p
  simp only [List.map_cons]
  by_cases hj:j ∈ Z
  ·rw [List.filter_cons_of_neg (by simp [hj]),ih]
   by_cases e:j=k
   ·subst e;simp [hj]
   ·simp only [List.mem_cons,show ¬ k=j from fun h=>e h.symm,false_or]
  ·rw [List.filter_cons_of_pos (by simp [hj]),List.map_cons]
   by_cases e:j=k
   ·subst e;simp [get,hj]
   ·rw [jK _ _ _ _ e,ih]
    simp only [List.mem_cons,show ¬ k=j from fun h=>e h.symm,false_or]
section
variable {C:Ctx} {ρ:Nat→Loc} {U:Nat→Prop} {h:List (Nat×Ob)} {w:World}
def gX (ρ:Nat→Loc) (Z:List Nat) (k:Nat):Loc:=if k ∈ Z then .dead else ρ k
theorem HR.kills (hr:HR C ρ U h w):∀ (Z:List Nat),(∀ b ∈ Z,∃ e sz xs,get h b=some (.row e sz xs))→∃ U',(∀ k,U' k→U k)∧(∀ k,U k→U' k)∧HR C (gX ρ Z) U' (kills Z++h) w
 |[],_=>⟨U,fun _ h=>h,fun _ h=>h,by
  have:gX ρ []=ρ:=by funext k;simp [gX]
  rw [this];exact hr⟩
 |b::Z,hz=>by
  obtain ⟨U',h1,h2,h3⟩:=HR.kills hr Z fun b hb=>hz b (List.mem_cons_of_mem _ hb)
  obtain ⟨e,sz,xs,hb⟩:=hz b (List.mem_cons_self ..)
  have hub:U b:=(hr.hp b _ hb).1
  have hnb:∀ cs,get (Go.Eng.kills Z++h) b≠some (.box cs):=by
   intro cs hg
   rw [get_append] at hg
   cases hk:get (Go.Eng.kills Z) b with
   |none=>rw [hk] at hg;simp only at hg;rw [hb] at hg;cases hg
   |some o=>
    rw [hk] at hg
    simp only [Option.some.injEq] at hg
    subst hg
    have:=get_mem hk
    simp [Go.Eng.kills] at this
  have hm:Moved C (gX ρ Z) U' (Go.Eng.kills Z++h) w b .dead w:=⟨rfl,rfl,rfl,Nat.le_refl _,fun _ _ _=>rfl,.inr (.inl ⟨h2 _ hub,rfl,hnb⟩)⟩
  have:=hm.hr h3 (ob:= .dead) (fun ⟨cs,hc⟩=>(hnb cs hc).elim) rfl
  refine ⟨iY U' b,fun k hk=> ?_,fun k hk=> .inl (h2 k hk),?_⟩
  ·rcases hk with hk|rfl
   ·exact h1 k hk
   ·exact hub
  ·have e:gX ρ (b::Z)=up (gX ρ Z) b .dead:=by
    funext k
    simp only [gX,up,List.mem_cons]
    by_cases e:k=b
    ·simp [e]
    ·simp [e]
   rw [e];exact this
theorem Zk {P:Program} {nm:Nat} {f:FuncId} {args args':List AV} {Q:AV→List (Nat×Ob)→Prop} (Z:List Nat)
 (hz:∀ b ∈ Z,∃ e sz xs,get h b=some (.row e sz xs)) (ha:au h (stay h Z) [] args' args) (hk:uy P nm f args' (kills Z++h) Q):uy P nm f args h Q:=by
 refine ⟨hk.1,fun C ρ U w vals hr hU hv=> ?_⟩
 obtain ⟨U',xX,xY,hr'⟩:=hr.kills Z hz
 have hloc:fA ρ (stay h Z) []=gX ρ Z:=by
  funext k
  simp only [fA,Cf,gX]
  by_cases hkz:k ∈ Z
  ·simp [hkz]
  ·by_cases hkh:k ∈ h.map Prod.fst
   ·rw [if_pos ⟨hkh,hkz⟩,if_neg hkz]
   ·rw [if_neg (fun h=>hkh h.1),if_neg hkz]
    have:get h k=none:=by
     cases hg:get h k with
     |none=>rfl
     |some o=>exact absurd (List.mem_map.2 ⟨_,get_mem hg,rfl⟩) hkh
    rw [hr.hd k this];simp
 have hnu:∀ k,mY (stay h Z) [] k→U' k:=by
  intro k hk
  rcases hk with hk|hk
  ·obtain ⟨c,hc⟩:=xQ hk
   rw [Cf] at hc
   split at hc
   ·rename_i h1
    obtain ⟨o,ho⟩:=xQ h1.1
    exact xY k (hr.hp k o ho).1
   ·cases hc
  ·simp at hk
 have qQ:Later U ρ (gX ρ Z):=fun b _=>by
  unfold gX
  by_cases e:b ∈ Z
  ·rw [if_pos e];exact .inr rfl
  ·rw [if_neg e];exact .inl rfl
 have Qu:∀ g,aQ C ρ w g→aQ C (gX ρ Z) w g:=fun g hg=>⟨hg.1,hg.2.1,fun ⟨b,o,n,hb⟩=>by
  unfold gX at hb
  split at hb
  ·cases hb
  ·exact hg.2.2 ⟨b,o,n,hb⟩⟩
 have hl:=jB _ _ ha
 have hv':VL w (aQ C (gX ρ Z) w) (gX ρ Z) U' args' vals:=by
  refine ⟨by rw [hl];exact hv.1,fun i x u hi hu=> ?_⟩
  obtain ⟨y,hy,hxy⟩:=jC _ _ ha i x hi
  have:=pM hr (hv.2 i y u hy hu) x hxy
  rw [hloc] at this
  exact this.mono (fun _ h=>h) (fun _ _=>rfl) hnu (fun _ _=> .inl rfl)
 refine (hk.2 C (gX ρ Z) U' w vals hr' (fun b hb=>hU b (xX b hb)) hv').mono fun e w' hpost=> ?_
 obtain ⟨v,r,h',ρ',zy,rfl,h1,h2,h3,h4,h5⟩:=hpost
 exact ⟨v,r,h',ρ',zy,rfl,h1,h2,fun x u hx=>h3 x u (hx.mono Qu (fun _ _=>rfl) xY qQ),fun b hb=>(h4 b hb).imp (xX b) id,h5⟩
end
end Go.Eng
namespace Go.Eng
open Go
theorem Arg.val (w:World) (u:Value):Arg w (.v u) u:= .v u
theorem Arg.nil (w:World) (sz:Nat):Arg w (.sl sz []) (.slice none 0 0):= .iI
theorem Arg.ints {w:World} {k:IntKind} {x:Addr} {len cap:Nat} {zs:List Int} (hl:len≤cap) (hz:zs.length=cap)
 (hc:∀ i,i<zs.length→w.cell? (x.add i)=some (.int k (zs.getD i 0))):Arg w (.sl 1 ((zs.take len).map fun z=>[.v (.int k z)])) (.slice (some x) len cap):=by
 have hlen:((zs.take len).map fun z=>[AV.v (.int k z)]).length=len:=by simp;omega
 have hel:∀ (i:Nat) (e:List AV),((zs.take len).map fun z=>[AV.v (.int k z)])[i]? =some e→i<len∧e=[.v (.int k (zs.getD i 0))]:=by
  intro i e h
  have h1:i<len:=by rw [←hlen];exact (List.getElem?_eq_some_iff.1 h).1
  refine ⟨h1,?_⟩
  rw [List.getElem?_map,List.getElem?_take_of_lt h1] at h
  rw [List.getD_eq_getElem?_getD]
  cases hz:zs[i]? with
  |none=>rw [hz] at h;cases h
  |some z=>rw [hz] at h;simp only [Option.map_some,Option.some.injEq] at h;rw [←h];rfl
 have hadd:∀ i,i<zs.length→w.cell? ⟨x.block,x.off+i,none⟩=some (.int k (zs.getD i 0)):=by
  intro i hi
  have h:=hc i hi
  have hs:=World.cell?_spot h
  unfold Addr.add at h hs
  split at h
  ·rename_i e
   subst e
   simp only [if_true] at hs
   obtain ⟨b,o,s⟩:=x
   simp only at hs
   subst hs
   exact h
  ·exact h
 refine .sl x len cap (fun i _=> .int k (zs.getD i 0)) hlen.symm hl (fun h=> ?_) (fun i e h=>by obtain ⟨_,rfl⟩:=hel i e h;rfl) (fun i e j c h hj=> ?_) (fun i e j c h hj=> ?_)
 ·have h0:0<zs.length:=by rw [hlen] at h;omega
  have h1:=hc 0 h0
  simp only [Addr.add,if_true] at h1
  refine ⟨World.cell?_spot h1,?_⟩
  unfold World.cell? at h1
  split at h1
  ·rename_i c a b hb
   exact (Array.getElem?_eq_some_iff.1 hb).1
  ·cases h1
 ·obtain ⟨h1,rfl⟩:=hel i e h
  have hj0:j=0:=by
   have:=(List.getElem?_eq_some_iff.1 hj).1
   simpa using this
  subst hj0
  simp only [Nat.mul_one,Nat.add_zero]
  exact ⟨hadd i (by omega),rfl⟩
 ·obtain ⟨h1,rfl⟩:=hel i e h
  have hj0:j=0:=by
   have:=(List.getElem?_eq_some_iff.1 hj).1
   simpa using this
  subst hj0
  simp only [List.getElem?_cons_zero,Option.some.injEq] at hj
  subst hj
  exact .v _
end Go.Eng
namespace Go.Eng
open Go
theorem VR.rn {w w':World} {ok ok':Nat→Prop} {ρ ρ':Nat→Loc} {U U':Nat→Prop} {S:List (Nat×Nat)} (hS:∀ k b,get S k=some b→U' k∧ρ' k=ρ b) (hok:∀ g,ok g→ok' g)
 (hw:∀ g,ok g→w'.heap[g]? =w.heap[g]?) {y:AV} {u:Value} (h:VR w ok ρ U y u):∀ x,rv [] S [] x y→VR w' ok' ρ' U' x u:=by
 have kp:∀ {y:AV} {u:Value},VP w ok y u→∀ x,rv [] S [] x y→VR w' ok' ρ' U' x u:=fun h=>by
  induction h with
  |v a=>
   intro x hx
   cases x with
   |v b=>simp only [rv] at hx;cases hx;exact .p (.v _)
   |sl sz ys=>
    unfold rv at hx
    split at hx
    ·rename_i e;cases e
    ·rename_i e;cases e;subst hx;exact .p .iI
    ·rename_i e;cases e
    ·exact hx.elim
   |own k sz off len=>
    unfold rv at hx
    split at hx
    ·rename_i e;cases e
    ·simp at hx
    ·exact hx.elim
   |_=>simp only [rv] at hx
  |agg hl hc ih=>
   intro x hx
   cases x<;>simp only [rv] at hx<;>try (cases hx;done)
   have h1:=jB _ _ hx
   refine .agg (by omega) fun i c u hi hu=> ?_
   obtain ⟨z,h2,h3⟩:=jC _ _ hx i c hi
   exact ih i z u h2 hu c h3
  |aF hl hc ih=>
   intro x hx
   cases x<;>simp only [rv] at hx<;>try (cases hx;done)
   have h1:=jB _ _ hx
   refine .aF (by omega) fun i c u hi hu=> ?_
   obtain ⟨z,h2,h3⟩:=jC _ _ hx i c hi
   exact ih i z u h2 hu c h3
  |fn hf hl hc ih=>
   intro x hx
   cases x<;>simp only [rv] at hx<;>try (cases hx;done)
   obtain ⟨rfl,hx⟩:=hx
   have h1:=jB _ _ hx
   refine .fn hf (by omega) fun i c u hi hu=> ?_
   obtain ⟨z,h2,h3⟩:=jC _ _ hx i c hi
   exact ih i z u h2 hu c h3
  |nT h hc ih=>
   intro x hx
   cases x<;>simp only [rv] at hx<;>try (cases hx;done)
   obtain ⟨rfl,hx⟩:=hx
   rename_i ys
   match ys,hx with
   |[y],hx=>
    simp only [au,and_true] at hx
    have h2:=ih y hx
    cases y<;>simp only [rv] at hx<;>try (cases hx;done)
    obtain ⟨rfl,rfl⟩:=hx
    exact .p (.nT h2.um hc)
   |[],hx=>simp only [au] at hx
   |_::_::_,hx=>simp only [au,and_false] at hx
  |iI=>
   intro x hx
   cases x<;>simp only [rv] at hx<;>try (cases hx;done)
   obtain ⟨rfl,rfl⟩:=hx
   exact .p .iI
  |sl a n cap f hn hcap hk hl hc hv ih=>
   intro x hx
   cases x<;>simp only [rv] at hx<;>try (cases hx;done)
   obtain ⟨rfl,rfl⟩:=hx
   exact .p ((VP.sl a n cap f hn hcap hk hl hc hv).mono hok hw)
  |dU g o f hk hc hv ih=>
   intro x hx
   cases x<;>simp only [rv] at hx<;>try (cases hx;done)
   obtain ⟨rfl,rfl⟩:=hx
   exact .p ((VP.dU g o f hk hc hv).mono hok hw)
 induction h with
 |p h=>exact kp h
 |agg hl hc ih=>
  intro x hx
  cases x<;>simp only [rv] at hx<;>try (cases hx;done)
  have h1:=jB _ _ hx
  refine .agg (by omega) fun i c u hi hu=> ?_
  obtain ⟨z,h2,h3⟩:=jC _ _ hx i c hi
  exact ih i z u h2 hu c h3
 |aF hl hc ih=>
  intro x hx
  cases x<;>simp only [rv] at hx<;>try (cases hx;done)
  have h1:=jB _ _ hx
  refine .aF (by omega) fun i c u hi hu=> ?_
  obtain ⟨z,h2,h3⟩:=jC _ _ hx i c hi
  exact ih i z u h2 hu c h3
 |fn hf hl hc ih=>
  intro x hx
  cases x<;>simp only [rv] at hx<;>try (cases hx;done)
  obtain ⟨rfl,hx⟩:=hx
  have h1:=jB _ _ hx
  refine .fn hf (by omega) fun i c u hi hu=> ?_
  obtain ⟨z,h2,h3⟩:=jC _ _ hx i c hi
  exact ih i z u h2 hu c h3
 |own hu ho=>
  intro x hx
  cases x with
  |own k sz' off' len'=>
   simp only [rv] at hx
   obtain ⟨h1,rfl,rfl,rfl⟩:=hx
   obtain ⟨h2,h3⟩:=hS _ _ h1
   exact .own h2 (by rw [h3];exact ho)
  |sl sz' ys=>simp [rv,get] at hx
  |dU cs j=>simp [rv] at hx
  |_=>simp only [rv] at hx<;>cases hx
 |ptr a hu ha=>
  intro x hx
  cases x with
  |ptr k j=>
   simp only [rv] at hx
   obtain ⟨h1,rfl⟩:=hx
   obtain ⟨h2,h3⟩:=hS _ _ h1
   exact .ptr a h2 (by rw [h3];exact ha)
  |_=>simp only [rv] at hx<;>cases hx
 |rp a hu ha=>
  intro x hx
  cases x with
  |rp k sz i j=>
   simp only [rv] at hx
   obtain ⟨h1,rfl,rfl,rfl⟩:=hx
   obtain ⟨h2,h3⟩:=hS _ _ h1
   exact .rp a h2 (by rw [h3];exact ha)
  |dU cs j=>simp [rv,get] at hx
  |_=>simp only [rv] at hx<;>cases hx
 |mp a hu ha=>
  intro x hx
  cases x with
  |mp k=>
   simp only [rv] at hx
   obtain ⟨h2,h3⟩:=hS _ _ hx
   exact .mp a h2 (by rw [h3];exact ha)
  |_=>simp only [rv] at hx<;>cases hx
theorem gZ.rn {w w':World} {ok ok':Nat→Prop} {ρ ρ':Nat→Loc} {U U':Nat→Prop} {S:List (Nat×Nat)} (hS:∀ k b,get S k=some b→U' k∧ρ' k=ρ b) (hok:∀ g,ok g→ok' g)
 (hw:∀ g,ok g→w'.heap[g]? =w.heap[g]?) {l:Loc} (hl:∀ g o n,l= .at g o n→w'.heap[g]? =w.heap[g]?) {x y:Ob} (h:gZ w ok ρ U l y) (hx:cO [] S [] x y):gZ w' ok' ρ' U' l x:=by
 cases y with
 |box cs=>
  cases x with
  |box ds=>
   simp only [cO] at hx
   obtain ⟨g,o,n,e,cells,h1,h2,h3,h4,h5⟩:=h
   have h6:=jB _ _ hx
   refine ⟨g,o,n,e,cells,h1,(hl g o n h1).trans h2,h3,by omega,fun j c hj=> ?_⟩
   obtain ⟨z,h7,h8⟩:=jC _ _ hx j c hj
   obtain ⟨u,hu,hv⟩:=h5 j z h7
   exact ⟨u,hu,hv.rn hS hok hw c h8⟩
  |_=>simp only [cO] at hx
 |row e sz xs=>
  cases x with
  |row e' sz' ys=>
   simp only [cO] at hx
   obtain ⟨rfl,rfl,rfl⟩:=hx
   rcases h with h|⟨g,o,n,cells,h1,h2,h3,h4,h5,h6⟩
   ·exact .inl h
   ·refine .inr ⟨g,o,n,cells,h1,(hl g o n h1).trans h2,h3,h4,h5,fun k x j c hk hj=> ?_⟩
    obtain ⟨u,hu,h1c,hv⟩:=h6 k x j c hk hj
    exact ⟨u,hu,h1c,hv.mono hok hw⟩
  |_=>simp only [cO] at hx
 |map es=>
  cases x with
  |map es'=>
   simp only [cO] at hx
   obtain ⟨g,dK,clock,h1,h2,h3,h4⟩:=h
   obtain ⟨hl',hgM⟩:=Qj _ _ hx
   refine ⟨g,dK,clock,h1,(hl g 0 0 h1).trans h2,by omega,fun i k c m hi he=> ?_⟩
   obtain ⟨z,h7,h8⟩:=hgM i k c hi
   exact ⟨(h4 i k z m h7 he).1,(h4 i k z m h7 he).2.rn hS hok hw c h8⟩
  |_=>simp only [cO] at hx
 |dead=>cases x<;>simp only [cO] at hx
def lW (P:Program) (f:FuncId) (xs:List AV) (bs:List (List AV)) (gs:List Ob) (r:AV) (bs':List (List AV)) (es:List Ob):Prop:=
 Enters P f∧∀ (C:Ctx) (ρ:Nat→Loc) (U:Nat→Prop) (w:World) (vals:Array Value),HR C ρ U (outs bs gs) w→(∀ b,U b→b<8)→VL w (aQ C ρ w) ρ U xs vals→
  Calls P f vals w fun e w'=>∃ v ρ' U',e= .returned v∧HR C ρ' U' (outs bs' es) w'∧VR w' (aQ C ρ' w') ρ' U' r v
theorem lW.aN {P:Program} {f:FuncId} {sc:fZ} {res:List kW} {nt:Nat} (hok:aA P f sc res nt) {xs:List AV} {bs:List (List AV)} {gs:List Ob} {r:AV} {bs':List (List AV)} {es:List Ob}
 (hn:xs.length≤nt) (hgo:go P [.code sc] (G5 res r bs' es) 8 (qR 0 xs) (outs bs gs)):lW P f xs bs gs r bs' es:=by
 obtain ⟨⟨fn,c,hf,hnm,hb,hs,hres,hr4,rfl⟩,hoc,hm⟩:=hok
 refine ⟨⟨fn,hf,hnm,by rw [hb];rfl⟩,fun C ρ U w vals hr hU hv=> ?_⟩
 let C1:Ctx:={C with nt:=fn.ntmps}
 have hr1:HR C1 ρ U (outs bs gs) w:=⟨hr.hp,hr.hd,hr.inj,hr.os,hr.tape,hr.output,hr.size,hr.old,hr.lM,hr.dV,hr.fix⟩
 refine calls_of_wp hf hb (zB (C:=C1) hm c sc hs hoc _ _ ⟨8,qR 0 xs,outs bs gs⟩ _ w ⟨ρ,U,⟨hr1,fun k x hk=> ?_,rfl,?_⟩,fun b hb=>hU b hb⟩ hgo fun e s a w' hA hQ=> ?_)
 ·rw [GZ] at hk
  simp only [Nat.zero_le,if_true,Nat.sub_zero] at hk
  have hlt:k<vals.size:=by rw [←hv.1];exact (List.getElem?_eq_some_iff.1 hk).1
  refine ⟨vals[k],?_,hv.2 k x _ hk (Array.getElem?_eq_getElem hlt)⟩
  simp [Array.getElem?_append,hlt]
 ·have:=hv.1
  simp only [Array.size_append,Array.size_replicate]
  show _=fn.ntmps
  omega
 ·have fin:Fin res r bs' es s.t s.h→a.defers=[]∧∃ v,(results fn a.tmps).run P w'= .ok v w'∧∃ v_1 ρ' U',Ending.returned v=Ending.returned v_1∧HR C ρ' U' (outs bs' es) w'∧VR w' (aQ C ρ' w') ρ' U' r v_1:=fun hF=>by
   obtain ⟨S,N,ys,h1,h2,h3,h4,h5⟩:=hF
   obtain ⟨ρ1,U1,hS,_⟩:=hA
   obtain ⟨vs,h6,h7,h8,h9⟩:=Ei (P:=P) hS.hr hS.tm fn.results.toList res ys hres h1
   refine ⟨hS.defers,_,Qk a.tmps w' rfl h6 hr4 h8,_,fA ρ1 S N,mY S N,rfl,?_,?_⟩
   ·have:=BZ hS.hr h2 h3 h4
    exact ⟨this.hp,this.hd,this.inj,this.os,this.tape,this.output,this.size,this.old,this.lM,this.dV,this.fix⟩
   ·exact pM hS.hr (Ql (by omega) h9) r h5
  cases e with
  |normal=>exact fin hQ
  |ret=>exact fin hQ
  |exit i=>exact hQ.elim
  |goto l=>exact hQ.elim
  |panic ch=>exact hQ.elim
  |outgrown=>exact hQ.elim
end Go.Eng
namespace Go.Eng
open Go
def dZ (B G:List Nat):List (Nat×Nat):=(List.range B.length).map (fun i=>(i,B[i]?.getD 0))++(List.range G.length).map (fun i=>(4+i,G[i]?.getD 0))
def jP (B:List Nat) (nm m:Nat):List (Nat×Nat):=(List.range B.length).map (fun i=>(B[i]?.getD 0,i))++(List.range m).map (fun i=>(nm+i,4+i))
theorem get_of_mem {α:Type} {l:List (Nat×α)} {k:Nat} {x:α} (hm:(k,x) ∈ l) (hn:(l.map Prod.fst).Nodup):get l k=some x:=by
 induction l with
 |nil=>simp at hm
 |cons p l ih=>
  obtain ⟨j,y⟩:=p
  simp only [List.map_cons,List.nodup_cons] at hn
  simp only [List.mem_cons,Prod.mk.injEq] at hm
  rcases hm with ⟨rfl,rfl⟩|hm
  ·simp [get]
  ·rw [jK]
   ·exact ih hm hn.2
   ·intro e;subst e;exact hn.1 (List.mem_map.2 ⟨_,hm,rfl⟩)
theorem uF {B G:List Nat} {k b:Nat} (h:get (dZ B G) k=some b):(B[k]? =some b)∨(4≤k∧G[k - 4]? =some b):=by
 have:=get_mem h
 simp only [dZ,List.mem_append,List.mem_map,List.mem_range,Prod.mk.injEq] at this
 rcases this with ⟨i,hi,rfl,rfl⟩|⟨i,hi,rfl,rfl⟩
 ·left;simp [hi]
 ·right;refine ⟨by omega,?_⟩;simp [hi]
theorem Ep {B G:List Nat} {k b:Nat} (h:B[k]? =some b) (h4:B.length≤4):get (dZ B G) k=some b:=by
 have hk:=(List.getElem?_eq_some_iff.1 h).1
 refine get_of_mem (List.mem_append_left _ (List.mem_map.2 ⟨k,List.mem_range.2 hk,by simp [h]⟩)) ?_
 simp only [dZ,List.map_append,List.map_map]
 rw [List.nodup_append]
 refine ⟨?_,?_,?_⟩
 ·have:((fun x:Nat×Nat=>x.1)∘fun i=>(i,B[i]?.getD 0))=id:=rfl
  show (List.map ((fun x:Nat×Nat=>x.1)∘fun i=>(i,B[i]?.getD 0)) _).Nodup
  rw [this,List.map_id];exact List.nodup_range
 ·unfold List.Nodup
  rw [List.pairwise_map]
  exact List.Pairwise.imp (fun h e=>h (by simp only [Function.comp] at e;omega)) List.nodup_range
 ·intro a ha b hb
  simp only [List.mem_map,List.mem_range,Function.comp] at ha hb
  obtain ⟨i,hi,rfl⟩:=ha
  obtain ⟨j,hj,rfl⟩:=hb
  omega
theorem ag8 {B G:List Nat} {i b:Nat} (h:G[i]? =some b) (h4:B.length≤4):get (dZ B G) (4+i)=some b:=by
 have hk:=(List.getElem?_eq_some_iff.1 h).1
 refine get_of_mem (List.mem_append_right _ (List.mem_map.2 ⟨i,List.mem_range.2 hk,by simp [h]⟩)) ?_
 simp only [dZ,List.map_append,List.map_map]
 rw [List.nodup_append]
 refine ⟨?_,?_,?_⟩
 ·have:((fun x:Nat×Nat=>x.1)∘fun i=>(i,B[i]?.getD 0))=id:=rfl
  show (List.map ((fun x:Nat×Nat=>x.1)∘fun i=>(i,B[i]?.getD 0)) _).Nodup
  rw [this,List.map_id];exact List.nodup_range
 ·unfold List.Nodup
  rw [List.pairwise_map]
  exact List.Pairwise.imp (fun h e=>h (by simp only [Function.comp] at e;omega)) List.nodup_range
 ·intro a ha b hb
  simp only [List.mem_map,List.mem_range,Function.comp] at ha hb
  obtain ⟨i,hi,rfl⟩:=ha
  obtain ⟨j,hj,rfl⟩:=hb
  omega
theorem Zl {B:List Nat} {nm m k i:Nat} (h:get (jP B nm m) k=some i):(B[i]? =some k)∨(nm≤k∧k<nm+m∧i=4+(k - nm)):=by
 have:=get_mem h
 simp only [jP,List.mem_append,List.mem_map,List.mem_range,Prod.mk.injEq] at this
 rcases this with ⟨j,hj,rfl,rfl⟩|⟨j,hj,rfl,rfl⟩
 ·left;simp [hj]
 ·right;omega
section
variable {P:Program} {f:FuncId} {xs ys:List AV} {bs bs' cs':List (List AV)} {gs es es':List Ob} {r r':AV} {h:List (Nat×Ob)} {B G:List Nat} {nm:Nat} {Q:AV→List (Nat×Ob)→Prop}
def isRow:Ob→Bool
 | .row _ _ _=>true
 |_=>false
theorem G9:∀ (Z:List Nat) (k:Nat),get (kills Z) k=if k ∈ Z then some .dead else none
 |[],k=>by simp [kills,get]
 |z::Z,k=>by
  have ih:=G9 Z k
  simp only [kills,List.map_cons,get] at ih ⊢
  by_cases e:z=k
  ·subst e;simp
  ·rw [if_neg e,ih]
   have:(k ∈ z::Z)=(k ∈ Z):=by simp only [List.mem_cons,eq_iff_iff];exact ⟨fun h=>h.resolve_left fun h=>e h.symm,.inr⟩
   simp only [this]
theorem lW.call (hF:lW P f xs bs gs r bs' es) (ha:au [] (dZ B G) [] xs ys)
 (hbl:bs.length=B.length) (hgl:gs.length=G.length) (hB4:B.length≤4) (hG4:G.length≤4) (hnd:(B++G).Nodup)
 (hb:∀ (i b:Nat),B[i]? =some b→∃ cs cs0,bs[i]? =some cs∧get h b=some (.box cs0)∧au [] (dZ B G) [] cs cs0)
 (hg:∀ (i b:Nat),G[i]? =some b→∃ o,gs[i]? =some o∧get h b=some o∧isRow o=true)
 (aha:bs'.length=B.length) (hcl':cs'.length=B.length) (hb':∀ (i:Nat) (c:List AV),cs'[i]? =some c→∃ x,bs'[i]? =some x∧au [] (jP B nm es.length) [] c x)
 (hel:es'.length=es.length) (hm:es.length≤8) (he:∀ (i:Nat) (y:Ob),es'[i]? =some y→∃ x,es[i]? =some x∧cO [] (jP B nm es.length) [] y x)
 (hr':rv [] (jP B nm es.length) [] r' r) (hQ:Q r' (dP nm es'++(iJ B cs'++(kills G++h)))):uy P nm f ys h Q:=by
 refine ⟨hF.1,fun C ρ U w vals hr hfr hvl=> ?_⟩
 rw [List.nodup_append] at hnd
 obtain ⟨hndB,ahb,hdis⟩:=hnd
 have hBG:∀ b,b ∈ B→b ∈ G→False:=fun b h1 h2=>hdis b h1 b h2 rfl
 have wo:∀ b ∈ B,U b∧∃ cs0,get h b=some (.box cs0):=fun b hbB=>by
  obtain ⟨i,hi⟩:=List.mem_iff_getElem?.1 hbB
  obtain ⟨cs,cs0,_,h2,_⟩:=hb i b hi
  exact ⟨(hr.hp b _ h2).1,cs0,h2⟩
 have He:∀ b ∈ G,U b∧∃ o,get h b=some o∧isRow o=true:=fun b kY=>by
  obtain ⟨i,hi⟩:=List.mem_iff_getElem?.1 kY
  obtain ⟨o,_,h2,h3⟩:=hg i b hi
  exact ⟨(hr.hp b _ h2).1,o,h2,h3⟩
 let C':Ctx:=⟨w,aQ C ρ w,(fun g=>∃ b ∈ B,∃ o n,ρ b=Loc.at g o n),(fun i=>(B[i]?).map ρ),0,(fun g hg=>by
  obtain ⟨b,hbB,o,n,hl⟩:=hg
  obtain ⟨i,hi⟩:=List.mem_iff_getElem?.1 hbB
  exact ⟨i,o,n,by simp [hi,hl]⟩),(fun i l hl=>by
  rcases Nat.lt_or_ge i B.length with h1|h1
  ·omega
  ·simp [List.getElem?_eq_none h1] at hl),(fun g=>∃ b ∈ G,∃ o n,ρ b=Loc.at g o n),(fun g ⟨b,kY,o,n,hl⟩ ⟨b',hbB,o',n',hl'⟩=>by
  have:=hr.inj b b' g o n o' n' hl hl'
  subst this
  exact hBG b hbB kY)⟩
 let ρc:Nat→Loc:=fun k=>match get (dZ B G) k with|some b=>ρ b|none=> .dead
 let Uc:Nat→Prop:=fun k=>∃ b,get (dZ B G) k=some b
 have sQ:∀ k b,get (dZ B G) k=some b→ρc k=ρ b:=fun k b hk=>by show (match get (dZ B G) k with|some b=>ρ b|none=> .dead)=ρ b;rw [hk]
 have wu:∀ k g o n,ρc k= .at g o n→∃ b,get (dZ B G) k=some b∧ρ b= .at g o n:=fun k g o n hk=>by
  cases hs:get (dZ B G) k with
  |none=>
   have:ρc k= .dead:=by show (match get (dZ B G) k with|some b=>ρ b|none=> .dead)=_;rw [hs]
   rw [this] at hk;cases hk
  |some b=>exact ⟨b,rfl,by rw [←sQ k b hs];exact hk⟩
 have hown0:∀ g,jZ ρc g→jZ ρ g:=fun g ⟨k,o,n,hk⟩=>by
  obtain ⟨b,_,hb⟩:=wu k g o n hk
  exact ⟨b,o,n,hb⟩
 have hok:∀ g,aQ C ρ w g→aQ C' ρc w g:=fun g hg=>⟨.inl hg,hg.2.1,fun ho=>hg.2.2 (hown0 g ho)⟩
 have Es:∀ k b,get (dZ B G) k=some b→Uc k∧ρc k=ρ b:=fun k b hk=>⟨⟨b,hk⟩,sQ k b hk⟩
 have Qv:∀ k,Uc k→k<8:=fun k ⟨b,hk⟩=>by
  rcases uF hk with h1|⟨h1,h2⟩
  ·have:=(List.getElem?_eq_some_iff.1 h1).1;omega
  ·have:=(List.getElem?_eq_some_iff.1 h2).1;omega
 have ahc:∀ k,k ∈ G→¬ (nm≤k∧k<nm+8):=fun k hk=>hfr k (He k hk).1
 have hr0:HR C' ρc Uc (outs bs gs) w:=by
  refine ⟨fun k o hk=> ?_,fun k hk=> ?_,fun k k' g o n o' n' h1 h2=> ?_,rfl,rfl,rfl,Nat.le_refl _,fun g _ _ _=>rfl,
   fun g hg=>⟨hg.2.1,fun ⟨b,_,o,n,hb⟩=>hg.2.2 ⟨b,o,n,hb⟩,fun ⟨b,_,o,n,hb⟩=>hg.2.2 ⟨b,o,n,hb⟩⟩,fun g ho=> ?_,fun i l hi=> ?_⟩
  ·unfold outs at hk
   rw [get_append,je,jM] at hk
   simp only [Nat.zero_le,if_true,Nat.sub_zero,List.getElem?_map] at hk
   cases hbk:bs[k]? with
   |some cs=>
    rw [hbk] at hk
    simp only [Option.map_some,Option.some.injEq] at hk
    subst hk
    have hlt:k<B.length:=by rw [←hbl];exact (List.getElem?_eq_some_iff.1 hbk).1
    have hib:B[k]? =some B[k]:=List.getElem?_eq_getElem hlt
    obtain ⟨cs1,cs0,h1,h2,h3⟩:=hb k _ hib
    rw [hbk] at h1;cases h1
    have hs:=Ep (G:=G) hib hB4
    refine ⟨⟨_,hs⟩,?_⟩
    rw [sQ k _ hs]
    exact (hr.hp _ _ h2).2.rn Es hok (fun _ _=>rfl) (fun _ _ _ _=>rfl) (by simp only [cO];exact h3)
   |none=>
    rw [hbk] at hk
    simp only [Option.map_none] at hk
    rw [jM] at hk
    split at hk
    ·rename_i h4
     have hlt:k - 4<G.length:=by rw [←hgl];exact (List.getElem?_eq_some_iff.1 hk).1
     have hib:G[k - 4]? =some G[k - 4]:=List.getElem?_eq_getElem hlt
     obtain ⟨o1,h1,h2,h3⟩:=hg (k - 4) _ hib
     rw [hk] at h1;cases h1
     have hs:=ag8 (B:=B) hib hB4
     rw [show 4+(k - 4)=k by omega] at hs
     refine ⟨⟨_,hs⟩,?_⟩
     rw [sQ k _ hs]
     refine (hr.hp _ _ h2).2.rn Es hok (fun _ _=>rfl) (fun _ _ _ _=>rfl) ?_
     cases o with
     |row e sz xs=>simp only [cO,and_self]
     |_=>simp [isRow] at h3
    ·cases hk
  ·cases hs:get (dZ B G) k with
   |none=>show (match get (dZ B G) k with|some b=>ρ b|none=> .dead)=_;rw [hs]
   |some b=>
    unfold outs at hk
    rw [get_append,je,jM] at hk
    simp only [Nat.zero_le,if_true,Nat.sub_zero,List.getElem?_map] at hk
    rcases uF hs with h1|⟨h1,h2⟩
    ·have hlt:k<bs.length:=by rw [hbl];exact (List.getElem?_eq_some_iff.1 h1).1
     rw [List.getElem?_eq_getElem hlt] at hk
     simp at hk
    ·have hlt:k - 4<gs.length:=by rw [hgl];exact (List.getElem?_eq_some_iff.1 h2).1
     have:bs[k]? =none:=List.getElem?_eq_none (by omega)
     rw [this] at hk
     simp only [Option.map_none,jM] at hk
     rw [if_pos h1,List.getElem?_eq_getElem hlt] at hk
     cases hk
  ·obtain ⟨b,hs,hl⟩:=wu k g o n h1
   obtain ⟨b',hs',hl'⟩:=wu k' g o' n' h2
   have e:=hr.inj b b' g o n o' n' hl hl'
   subst e
   rcases uF hs with h3|⟨h3,h4⟩<;>rcases uF hs' with h5|⟨h5,h6⟩
   ·obtain ⟨p1,q1⟩:=List.getElem?_eq_some_iff.1 h3
    obtain ⟨p2,q2⟩:=List.getElem?_eq_some_iff.1 h5
    exact (List.getElem_inj hndB).1 (q1.trans q2.symm)
   ·exact (hBG b (List.mem_of_getElem? h3) (List.mem_of_getElem? h6)).elim
   ·exact (hBG b (List.mem_of_getElem? h5) (List.mem_of_getElem? h4)).elim
   ·obtain ⟨p1,q1⟩:=List.getElem?_eq_some_iff.1 h4
    obtain ⟨p2,q2⟩:=List.getElem?_eq_some_iff.1 h6
    have:=(List.getElem_inj ahb).1 (q1.trans q2.symm)
    omega
  ·obtain ⟨k,o,n,hk⟩:=ho
   obtain ⟨b,hs,hl⟩:=wu k g o n hk
   refine ⟨?_,(hr.dV g ⟨b,o,n,hl⟩).2⟩
   rcases uF hs with h3|⟨h3,h4⟩
   ·exact .inl ⟨b,List.mem_of_getElem? h3,o,n,hl⟩
   ·exact .inr (.inl ⟨b,List.mem_of_getElem? h4,o,n,hl⟩)
  ·have hlt:i<B.length:=by
    rcases Nat.lt_or_ge i B.length with h1|h1
    ·exact h1
    ·simp [C',List.getElem?_eq_none h1] at hi
   have hib:B[i]? =some B[i]:=List.getElem?_eq_getElem hlt
   obtain ⟨cs,cs1,h1,h2,h3⟩:=hb i _ hib
   have hs:=Ep (G:=G) hib hB4
   refine ⟨?_,⟨_,hs⟩,cs,?_⟩
   ·rw [sQ i _ hs]
    simp only [C',hib,Option.map_some,Option.some.injEq] at hi
    exact hi
   ·exact Cc h1
 have zN:VL w (aQ C' ρc w) ρc Uc xs vals:=by
  have hl:=jB _ _ ha
  refine ⟨by rw [hl];exact hvl.1,fun i x u hi hu=> ?_⟩
  obtain ⟨y,hy,hxy⟩:=jC _ _ ha i x hi
  exact (hvl.2 i y u hy hu).rn Es hok (fun _ _=>rfl) x hxy
 refine (hF.2 C' ρc Uc w vals hr0 Qv zN).mono fun e w' hpost=> ?_
 obtain ⟨v,ρ1,U1,rfl,hr1,hv1⟩:=hpost
 let ρ2:Nat→Loc:=fun k=>if nm≤k∧k<nm+es.length then ρ1 (4+(k - nm)) else if k ∈ G then .dead else ρ k
 let U2:Nat→Prop:=fun k=>U k∨(nm≤k∧k<nm+es.length)
 have zQ:∀ k,nm≤k∧k<nm+es.length→ρ2 k=ρ1 (4+(k - nm)):=fun k hk=>by show (if _ then _ else _)=_;rw [if_pos hk]
 have sS:∀ k,U k→k ∉ G→ρ2 k=ρ k:=fun k hk hG=>by
  show (if _ then _ else _)=_
  rw [if_neg (fun hh=>hfr k hk ⟨hh.1,by omega⟩),if_neg hG]
 have Zm:∀ k,k ∈ G→ρ2 k= .dead:=fun k hG=>by
  show (if _ then _ else _)=_
  rw [if_neg (fun hh=>ahc k hG ⟨hh.1,by omega⟩),if_pos hG]
 have hsz:w.heap.size≤w'.heap.size:=hr1.size
 have ahd:∀ b ∈ G,∀ g o n,ρ b= .at g o n→(C.ext g∨C.new g)→C.new g:=fun b kY g o n hl hx=>by
  rcases hx with h1|h1
  ·obtain ⟨b',o',n',hb'⟩:=C.BD g h1
   obtain ⟨h3,_,cs,h4⟩:=hr.fix b' _ hb'
   have:=hr.inj b b' g o n o' n' hl h3
   subst this
   obtain ⟨_,o2,h5,h6⟩:=He b kY
   rw [h5] at h4;cases h4
   simp [isRow] at h6
  ·exact h1
 have hoff:∀ i g o n,i<es.length→ρ1 (4+i)= .at g o n→((∃ b ∈ G,∃ o n,ρ b= .at g o n)∨w.heap.size≤g)∧g<w'.heap.size:=fun i g o n hi hl=>by
  obtain ⟨h1,h2⟩:=hr1.dV g ⟨_,o,n,hl⟩
  refine ⟨?_,h2⟩
  rcases h1 with h1|h1
  ·obtain ⟨b,o',n',hb⟩:=C'.BD g h1
   obtain ⟨h3,_,_⟩:=hr1.fix b _ hb
   have:=hr1.inj (4+i) b g o n o' n' hl h3
   have:=C'.Gi b _ hb
   omega
  ·exact h1
 have hold:∀ k g o n,ρ k= .at g o n→g<w.heap.size:=fun k g o n hl=>(hr.dV g ⟨k,o,n,hl⟩).2
 have hheap:∀ g,g<w.heap.size→(∀ b ∈ B,∀ o n,ρ b≠.at g o n)→(∀ b ∈ G,∀ o n,ρ b≠.at g o n)→w'.heap[g]? =w.heap[g]? :=fun g hg h1 h2=>
  hr1.old g hg (fun ⟨b,hbB,o,n,hl⟩=>h1 b hbB o n hl) (fun ⟨b,kY,o,n,hl⟩=>h2 b kY o n hl)
 have hcase:∀ k g o n,ρ2 k= .at g o n→(∃ i,k=nm+i∧i<es.length∧ρ1 (4+i)= .at g o n)∨(k ∉ G∧ρ k= .at g o n):=fun k g o n hk=>by
  by_cases h1:nm≤k∧k<nm+es.length
  ·rw [zQ k h1] at hk
   exact .inl ⟨k - nm,by omega,by omega,hk⟩
  ·have hk':(if k ∈ G then Loc.dead else ρ k)= .at g o n:=by
    have:ρ2 k=(if k ∈ G then Loc.dead else ρ k):=by show (if _ then _ else _)=_;rw [if_neg h1]
    rw [←this];exact hk
   split at hk'
   ·cases hk'
   ·rename_i h2;exact .inr ⟨h2,hk'⟩
 have hok2:∀ g,aQ C ρ w g→aQ C ρ2 w' g:=fun g hg=>⟨hg.1,by have:=hg.2.1;omega,fun ⟨k,o,n,hk⟩=>by
  rcases hcase k g o n hk with ⟨i,rfl,hi,hl⟩|⟨_,hl⟩
  ·rcases (hoff i g o n hi hl).1 with ⟨b,_,o',n',hb'⟩|h1
   ·exact hg.2.2 ⟨b,o',n',hb'⟩
   ·have:=hg.2.1;omega
  ·exact hg.2.2 ⟨k,o,n,hl⟩⟩
 have xU:∀ g,aQ C ρ w g→w'.heap[g]? =w.heap[g]? :=fun g hg=>hheap g hg.2.1 (fun b _ o n hl=>hg.2.2 ⟨b,o,n,hl⟩) (fun b _ o n hl=>hg.2.2 ⟨b,o,n,hl⟩)
 have qQ:Later U ρ ρ2:=fun k hk=>by
  by_cases hG:k ∈ G
  ·exact .inr (Zm k hG)
  ·exact .inl (sS k hk hG)
 have lV:∀ g,aQ C' ρ1 w' g→aQ C ρ2 w' g:=fun g hg=>by
  refine ⟨?_,hg.2.1,fun ⟨k,o,n,hk⟩=> ?_⟩
  ·rcases hg.1 with h1|⟨b,kY,o,n,hl⟩|h1
   ·exact h1.1
   ·exact .inr (ahd b kY g o n hl (hr.dV g ⟨b,o,n,hl⟩).1)
   ·exact .inr (.inr (Nat.le_trans hr.size h1))
  ·rcases hcase k g o n hk with ⟨i,rfl,hi,hl⟩|⟨hG,hl⟩
   ·exact hg.2.2 ⟨_,o,n,hl⟩
   ·rcases hg.1 with h1|⟨b,kY,o',n',hl'⟩|h1
    ·exact h1.2.2 ⟨k,o,n,hl⟩
    ·have:=hr.inj k b g o n o' n' hl hl'
     subst this
     exact hG kY
    ·have:=hold k g o n hl
     have h1':w.heap.size≤g:=h1
     omega
 have hSo:∀ k i,get (jP B nm es.length) k=some i→U2 k∧ρ2 k=ρ1 i:=fun k i hk=>by
  rcases Zl hk with h1|⟨h1,h2,rfl⟩
  ·have hkB:=List.mem_of_getElem? h1
   have hfx:=(hr1.fix i (ρ k) (by show (B[i]?).map ρ=_;rw [h1];rfl)).1
   exact ⟨.inl (wo k hkB).1,by rw [sS k (wo k hkB).1 (fun hG=>hBG k hkB hG),hfx]⟩
  ·exact ⟨.inr ⟨h1,h2⟩,zQ k ⟨h1,h2⟩⟩
 refine ⟨v,r',_,ρ2,U2,rfl,⟨fun k o hk=> ?_,fun k hk=> ?_,fun k k' g o n o' n' h1 h2=> ?_,hr1.os.trans hr.os,hr1.tape.trans hr.tape,hr1.output.trans hr.output,Nat.le_trans hr.size hsz,
  fun g hg he hv=> ?_,hr.lM,fun g ho=> ?_,fun b l hb2=> ?_⟩,hv1.rn hSo lV (fun _ _=>rfl) r' hr',fun x u hx=>hx.mono hok2 xU (fun k hk=> .inl hk) qQ,fun b hb2=> ?_,hQ⟩
 ·rw [get_append,jM] at hk
  by_cases hin:nm≤k∧k<nm+es.length
  ·have hi:k - nm<es'.length:=by omega
   rw [if_pos hin.1,List.getElem?_eq_getElem hi] at hk
   cases hk
   obtain ⟨x,hx1,hx2⟩:=he (k - nm) _ (List.getElem?_eq_getElem hi)
   refine ⟨.inr hin,?_⟩
   rw [zQ k hin]
   have hgt:get (outs bs' es) (4+(k - nm))=some x:=GU (by omega) hx1
   exact (hr1.hp _ _ hgt).2.rn hSo lV (fun _ _=>rfl) (fun _ _ _ _=>rfl) hx2
  ·have hno:(if nm≤k then es'[k - nm]? else none)=none:=by
    split
    ·exact List.getElem?_eq_none (by omega)
    ·rfl
   rw [hno] at hk
   simp only [get_append] at hk
   cases hbx:get (iJ B cs') k with
   |some o'=>
    rw [hbx] at hk;cases hk
    obtain ⟨i,c2,h1,h2,rfl⟩:=zG B cs' k _ hbx
    have hkB:=List.mem_of_getElem? h1
    refine ⟨.inl (wo k hkB).1,?_⟩
    obtain ⟨x,hx1,hx2⟩:=hb' i c2 h2
    have hfx:=(hr1.fix i (ρ k) (by show (B[i]?).map ρ=_;rw [h1];rfl)).1
    rw [sS k (wo k hkB).1 (fun hG=>hBG k hkB hG),←hfx]
    exact (hr1.hp i _ (Cc hx1)).2.rn hSo lV (fun _ _=>rfl) (fun _ _ _ _=>rfl) (by simp only [cO];exact hx2)
   |none=>
    rw [hbx] at hk
    simp only [G9] at hk
    by_cases hG:k ∈ G
    ·rw [if_pos hG] at hk
     cases hk
     exact ⟨.inl (He k hG).1,Zm k hG⟩
    ·rw [if_neg hG] at hk
     simp only at hk
     obtain ⟨vX,ho⟩:=hr.hp k o hk
     refine ⟨.inl vX,?_⟩
     rw [sS k vX hG]
     refine gZ.mono hok2 xU (fun k hk=> .inl hk) qQ (fun g o n hl=>hheap g (hold k g o n hl) (fun b hbB o' n' hb2=> ?_) (fun b kY o' n' hb2=> ?_)) ho
     ·have:=hr.inj k b g o n o' n' hl hb2
      subst this
      exact GV B cs' k hbx hcl'.symm hbB
     ·have:=hr.inj k b g o n o' n' hl hb2
      subst this
      exact hG kY
 ·rw [get_append,jM] at hk
  have hin:¬ (nm≤k∧k<nm+es.length):=fun hh=>by
   rw [if_pos hh.1,List.getElem?_eq_getElem (show k - nm<es'.length by omega)] at hk
   cases hk
  have hno:(if nm≤k then es'[k - nm]? else none)=none:=by
   split
   ·exact List.getElem?_eq_none (by omega)
   ·rfl
  rw [hno] at hk
  simp only [get_append] at hk
  show (if _ then _ else _)=_
  rw [if_neg hin]
  cases hbx:get (iJ B cs') k with
  |some o'=>rw [hbx] at hk;cases hk
  |none=>
   rw [hbx] at hk
   simp only [G9] at hk
   by_cases hG:k ∈ G
   ·rw [if_pos hG]
   ·rw [if_neg hG] at hk ⊢
    exact hr.hd k hk
 ·rcases hcase k g o n h1 with ⟨i,rfl,hi,hl⟩|⟨hG,hl⟩<;>rcases hcase k' g o' n' h2 with ⟨i',rfl,hi',hl'⟩|⟨hG',hl'⟩
  ·have:=hr1.inj _ _ g o n o' n' hl hl'
   omega
  ·rcases (hoff i g o n hi hl).1 with ⟨b,kY,o2,n2,hb2⟩|h3
   ·have:=hr.inj k' b g o' n' o2 n2 hl' hb2
    subst this;exact (hG' kY).elim
   ·have:=hold _ g o' n' hl';omega
  ·rcases (hoff i' g o' n' hi' hl').1 with ⟨b,kY,o2,n2,hb2⟩|h3
   ·have:=hr.inj k b g o n o2 n2 hl hb2
    subst this;exact (hG kY).elim
   ·have:=hold _ g o n hl;omega
  ·exact hr.inj _ _ g o n o' n' hl hl'
 ·have hg':g<w.heap.size:=Nat.lt_of_lt_of_le hg hr.size
  rw [←hr.old g hg he hv]
  have key:∀ b o n,ρ b≠.at g o n:=fun b o n hl=>by
   rcases (hr.dV g ⟨b,o,n,hl⟩).1 with h1|h1|h1
   ·exact he h1
   ·exact hv h1
   ·omega
  exact hheap g hg' (fun b _=>key b) (fun b _=>key b)
 ·obtain ⟨k,o,n,hk⟩:=ho
  rcases hcase k g o n hk with ⟨i,rfl,hi,hl⟩|⟨hG,hl⟩
  ·have h1:=hoff i g o n hi hl
   refine ⟨?_,h1.2⟩
   rcases h1.1 with ⟨b,kY,o2,n2,hb2⟩|h3
   ·exact (hr.dV g ⟨b,o2,n2,hb2⟩).1
   ·exact .inr (.inr (Nat.le_trans hr.size h3))
  ·exact ⟨(hr.dV g ⟨k,o,n,hl⟩).1,by have:=hold k g o n hl;omega⟩
 ·obtain ⟨h1,h2,cs0,h3⟩:=hr.fix b l hb2
  have hG:b ∉ G:=fun hG=>by
   obtain ⟨_,o,h5,h6⟩:=He b hG
   rw [h3] at h5;cases h5
   simp [isRow] at h6
  refine ⟨by rw [sS b h2 hG];exact h1,.inl h2,?_⟩
  have hin:¬ (nm≤b∧b<nm+es.length):=fun hh=>hfr b h2 ⟨hh.1,by omega⟩
  have hno:(if nm≤b then es'[b - nm]? else none)=none:=by
   split
   ·exact List.getElem?_eq_none (by omega)
   ·rfl
  rw [get_append,jM,hno]
  simp only [get_append,G9]
  cases hbx:get (iJ B cs') b with
  |some o'=>
   obtain ⟨i,c2,_,_,rfl⟩:=zG B cs' b _ hbx
   exact ⟨c2,rfl⟩
  |none=>
   simp only [if_neg hG]
   exact ⟨cs0,h3⟩
 ·rcases hb2 with h1|h1
  ·exact .inl h1
  ·exact .inr ⟨h1.1,by omega⟩
end
end Go.Eng
namespace Go.Eng
open Go
section
variable {P:Program} {f:FuncId} {xs ys:List AV} {bs bs' cs':List (List AV)} {gs es es':List Ob} {r r':AV} {h:List (Nat×Ob)} {nm:Nat}
def iK (h:List (Nat×Ob)) (S:List (Nat×Nat)):List Nat→List (List AV)→Prop
 |[],[]=>True
 |b::B,cs::bs=>(match get h b with
  |some (.box cs0)=>au [] S [] cs cs0
  |_=>False)∧iK h S B bs
 |_,_=>False
def iL (h:List (Nat×Ob)):List Nat→List Ob→Prop
 |[],[]=>True
 |b::G,o::gs=>(get h b=some o∧isRow o=true)∧iL h G gs
 |_,_=>False
def jE (S:List (Nat×Nat)):List (List AV)→List (List AV)→Prop
 |[],[]=>True
 |c::cs,x::xs=>au [] S [] c x∧jE S cs xs
 |_,_=>False
def jF (S:List (Nat×Nat)):List Ob→List Ob→Prop
 |[],[]=>True
 |c::cs,x::xs=>cO [] S [] c x∧jF S cs xs
 |_,_=>False
theorem Zn {S:List (Nat×Nat)}:∀ (B:List Nat) (bs:List (List AV)),iK h S B bs→bs.length=B.length∧∀ (i b:Nat),B[i]? =some b→∃ cs cs0,bs[i]? =some cs∧get h b=some (.box cs0)∧au [] S [] cs cs0
 |[],[],_=>⟨rfl,fun i b hi=>by simp at hi⟩
 |b::B,cs::bs,hx=>by
  simp only [iK] at hx
  obtain ⟨h1,h2⟩:=Zn B bs hx.2
  refine ⟨by simp [h1],fun i c hi=> ?_⟩
  cases i with
  |zero=>
   simp at hi;subst hi
   obtain ⟨h3,_⟩:=hx
   split at h3
   ·rename_i cs0 hc;exact ⟨cs,cs0,rfl,hc,h3⟩
   ·exact h3.elim
  |succ i=>simpa using h2 i c (by simpa using hi)
 |[],_::_,hx=>by simp [iK] at hx
 |_::_,[],hx=>by simp [iK] at hx
theorem Zo:∀ (G:List Nat) (gs:List Ob),iL h G gs→gs.length=G.length∧∀ (i b:Nat),G[i]? =some b→∃ o,gs[i]? =some o∧get h b=some o∧isRow o=true
 |[],[],_=>⟨rfl,fun i b hi=>by simp at hi⟩
 |b::G,o::gs,hx=>by
  simp only [iL] at hx
  obtain ⟨h1,h2⟩:=Zo G gs hx.2
  refine ⟨by simp [h1],fun i c hi=> ?_⟩
  cases i with
  |zero=>simp at hi;subst hi;exact ⟨o,rfl,hx.1.1,hx.1.2⟩
  |succ i=>simpa using h2 i c (by simpa using hi)
 |[],_::_,hx=>by simp [iL] at hx
 |_::_,[],hx=>by simp [iL] at hx
theorem Zp {S:List (Nat×Nat)}:∀ (cs xs:List (List AV)),jE S cs xs→cs.length=xs.length∧∀ (i:Nat) (c:List AV),cs[i]? =some c→∃ x,xs[i]? =some x∧au [] S [] c x
 |[],[],_=>⟨rfl,fun i b hi=>by simp at hi⟩
 |c::cs,x::xs,hx=>by
  simp only [jE] at hx
  obtain ⟨h1,h2⟩:=Zp cs xs hx.2
  refine ⟨by simp [h1],fun i b hi=> ?_⟩
  cases i with
  |zero=>simp at hi;subst hi;exact ⟨x,rfl,hx.1⟩
  |succ i=>simpa using h2 i b (by simpa using hi)
 |[],_::_,hx=>by simp [jE] at hx
 |_::_,[],hx=>by simp [jE] at hx
theorem Zq {S:List (Nat×Nat)}:∀ (cs xs:List Ob),jF S cs xs→cs.length=xs.length∧∀ (i:Nat) (c:Ob),cs[i]? =some c→∃ x,xs[i]? =some x∧cO [] S [] c x
 |[],[],_=>⟨rfl,fun i b hi=>by simp at hi⟩
 |c::cs,x::xs,hx=>by
  simp only [jF] at hx
  obtain ⟨h1,h2⟩:=Zq cs xs hx.2
  refine ⟨by simp [h1],fun i b hi=> ?_⟩
  cases i with
  |zero=>simp at hi;subst hi;exact ⟨x,rfl,hx.1⟩
  |succ i=>simpa using h2 i b (by simpa using hi)
 |[],_::_,hx=>by simp [jF] at hx
 |_::_,[],hx=>by simp [jF] at hx
theorem Zr {h':List (Nat×Ob)} {S:List (Nat×Nat)}:∀ (B:List Nat) (bs:List (List AV)),(∀ b ∈ B,get h' b=get h b)→iK h S B bs→iK h' S B bs
 |[],[],_,_=>by simp [iK]
 |b::B,cs::bs,he,hx=>by
  simp only [iK] at hx ⊢
  rw [he b (by simp)]
  exact ⟨hx.1,Zr B bs (fun c hc=>he c (by simp [hc])) hx.2⟩
 |[],_::_,_,hx=>by simp [iK] at hx
 |_::_,[],_,hx=>by simp [iK] at hx
theorem Zt {h':List (Nat×Ob)}:∀ (G:List Nat) (gs:List Ob),(∀ b ∈ G,get h' b=get h b)→iL h G gs→iL h' G gs
 |[],[],_,_=>by simp [iL]
 |b::G,o::gs,he,hx=>by
  simp only [iL] at hx ⊢
  rw [he b (by simp)]
  exact ⟨hx.1,Zt G gs (fun c hc=>he c (by simp [hc])) hx.2⟩
 |[],_::_,_,hx=>by simp [iL] at hx
 |_::_,[],_,hx=>by simp [iL] at hx
theorem lW.vY (hF:lW P f xs bs gs r bs' es) (B G:List Nat) (r':AV) (cs':List (List AV)) (es':List Ob) (ha:au [] (dZ B G) [] xs ys) (hb:iK h (dZ B G) B bs) (hg:iL h G gs)
 (hd:(decide (B.length≤4)&&(decide (G.length≤4)&&(decide ((B++G).Nodup)&&(decide (bs'.length=B.length)&&decide (es.length≤8)))))=true)
 (hb':jE (jP B nm es.length) cs' bs') (he:jF (jP B nm es.length) es' es) (hr:rv [] (jP B nm es.length) [] r' r):
 lQ P nm f ys h ⟨r',dP nm es'++(iJ B cs'++kills G),B++G⟩:=by
 intro h' hh Q hQ
 simp only [Bool.and_eq_true,decide_eq_true_eq] at hd
 obtain ⟨h1,h2,h3,h4,h5⟩:=hd
 obtain ⟨b1,b2⟩:=Zn B bs (Zr (h':=h') B bs (fun b hb=>hh b (by simp [hb])) hb)
 obtain ⟨g1,g2⟩:=Zo G gs (Zt (h':=h') G gs (fun b hb=>hh b (by simp [hb])) hg)
 obtain ⟨o1,o2⟩:=Zp cs' bs' hb'
 obtain ⟨e1,e2⟩:=Zq es' es he
 refine hF.call ha b1 g1 h1 h2 h3 b2 g2 h4 (o1.trans h4) o2 e1 h5 e2 hr ?_
 simpa only [List.append_assoc] using hQ
theorem zS {k:List It} {Q:Exit→St→Prop} {n n':Nat} {t:List (Nat×AV)} {d:Option Nat} {l:List aC} (hF:lW P f xs bs gs r bs' es) (B G:List Nat) (r':AV) (cs':List (List AV)) (es':List Ob)
 (ha:au [] (dZ B G) [] xs ys) (hb:iK h (dZ B G) B bs) (hg:iL h G gs)
 (hd:(decide (B.length≤4)&&(decide (G.length≤4)&&(decide ((B++G).Nodup)&&(decide (bs'.length=B.length)&&decide (es.length≤8)))))=true)
 (hb':jE (jP B nm es.length) cs' bs') (he:jF (jP B nm es.length) es' es) (hr:rv [] (jP B nm es.length) [] r' r)
 (hk:go P (.ops (nm+8) n' l::k) Q n (bU t d r') ((dP nm es'++(iJ B cs'++kills G))++h)):pU P nm f ys d n' l k Q n t h:=
 zJ (hF.vY B G r' cs' es' ha hb hg hd hb' he hr) hk
theorem Hf {k:List It} {Q:Exit→St→Prop} {n n':Nat} {t:List (Nat×AV)} {d:Option Nat} {l ops:List aC} {acc:List bW} (hF:lW P f xs bs gs r bs' es) (B G:List Nat) (r':AV) (cs':List (List AV)) (es':List Ob)
 (ha:au [] (dZ B G) [] xs ys) (hb:iK h (dZ B G) B bs) (hg:iL h G gs)
 (hd:(decide (B.length≤4)&&(decide (G.length≤4)&&(decide ((B++G).Nodup)&&(decide (bs'.length=B.length)&&decide (es.length≤8)))))=true)
 (hb':jE (jP B nm es.length) cs' bs') (he:jF (jP B nm es.length) es' es) (hr:rv [] (jP B nm es.length) [] r' r)
 (hk:go P (.dF (nm+8) n' l ops ((B++G,(dP nm es'++(iJ B cs'++kills G)).map Prod.fst)::acc)::k) Q n (bU t d r') ((dP nm es'++(iJ B cs'++kills G))++h)):pW P nm f ys d n' l ops acc k Q n t h:=
 zK (hF.vY B G r' cs' es' ha hb hg hd hb' he hr) hk
end
end Go.Eng
namespace Go.Eng
open Go
mutual
theorem ahe {h h':List (Nat×Ob)} {Z:List Nat} (he:∀ b ∈ Z,get h' b=get h b):∀ (x y:AV),(∀ b ∈ deep y,b ∈ Z)→rv h [] [] x y→rv h' (stay h' Z) [] x y
 | .own k sz off len,y,_,hx=>by
  unfold rv at hx
  split at hx
  ·simp [get] at hx
  ·simp at hx
  ·exact hx.elim
 | .ptr k j,y,_,hx=>by
  unfold rv at hx
  split at hx
  ·simp [get] at hx
  ·exact hx.elim
 | .rp ..,y,_,hx=>by
  unfold rv at hx
  split at hx
  ·simp [get] at hx
  ·exact hx.elim
 | .mp ..,y,_,hx=>by
  unfold rv at hx
  split at hx
  ·simp [get] at hx
  ·exact hx.elim
 | .v _,y,_,hx=>by unfold rv at hx ⊢;exact hx
 | .sl sz ys,y,hh,hx=>by
  cases y with
  |own b sz' off' len=>
   simp only [deep,List.mem_singleton,forall_eq] at hh
   simp only [rv,he b hh] at hx ⊢
   refine ⟨fun hm=> ?_,hx.2⟩
   obtain ⟨c,hc⟩:=List.mem_map.1 hm
   simp only [stay,List.mem_map,List.mem_filter] at hc
   obtain ⟨⟨k,⟨_,hk2⟩,rfl⟩,rfl⟩:=hc
   simp [hh] at hk2
  |v a=>
   unfold rv at hx ⊢
   split at hx
   ·rename_i e;cases e
   ·rename_i e;cases e;exact hx
   ·rename_i e;cases e
   ·exact hx.elim
  |_=>simp only [rv] at hx ⊢<;>exact hx
 | .dU cs j,y,hh,hx=>by
  cases y with
  |rp b sz i j'=>
   simp only [deep,List.mem_singleton,forall_eq] at hh
   simp only [rv,he b hh] at hx ⊢
   refine ⟨fun hm=> ?_,hx.2⟩
   obtain ⟨c,hc⟩:=List.mem_map.1 hm
   simp only [stay,List.mem_map,List.mem_filter] at hc
   obtain ⟨⟨k,⟨_,hk2⟩,rfl⟩,rfl⟩:=hc
   simp [hh] at hk2
  |_=>simp only [rv] at hx ⊢<;>exact hx
 | .agg ys,y,hh,hx=>by
  cases y<;>unfold rv at hx ⊢<;>try exact hx
  exact Ci he ys _ (by simpa only [deep] using hh) hx
 | .aF ys,y,hh,hx=>by
  cases y<;>unfold rv at hx ⊢<;>try exact hx
  exact Ci he ys _ (by simpa only [deep] using hh) hx
 | .fn f ys,y,hh,hx=>by
  cases y<;>unfold rv at hx ⊢<;>try exact hx
  exact ⟨hx.1,Ci he ys _ (by simpa only [deep] using hh) hx.2⟩
theorem Ci {h h':List (Nat×Ob)} {Z:List Nat} (he:∀ b ∈ Z,get h' b=get h b):∀ (xs ys:List AV),(∀ b ∈ dR ys,b ∈ Z)→au h [] [] xs ys→au h' (stay h' Z) [] xs ys
 |[],[],_,_=>by simp only [au]
 |x::xs,y::ys,hh,hx=>by
  simp only [au] at hx ⊢
  simp only [dR,List.mem_append] at hh
  exact ⟨ahe he x y (fun b hb=>hh b (.inl hb)) hx.1,Ci he xs ys (fun b hb=>hh b (.inr hb)) hx.2⟩
 |[],_::_,_,hx=>by simp only [au] at hx
 |_::_,[],_,hx=>by simp only [au] at hx
end
section
variable {P:Program} {f:FuncId} {xs ys:List AV} {r:AV} {es:List Ob} {h:List (Nat×Ob)} {nm:Nat}
def qV (h:List (Nat×Ob)):List Nat→Bool
 |[]=>true
 |b::Z=>(match get h b with
  |some (.row _ _ _)=>true
  |_=>false)&&qV h Z
theorem Hg:∀ (Z:List Nat),qV h Z=true→∀ b ∈ Z,∃ e sz xs,get h b=some (.row e sz xs)
 |[],_,b,hb=>by simp at hb
 |z::Z,hz,b,hb=>by
  simp only [qV,Bool.and_eq_true] at hz
  rcases List.mem_cons.1 hb with rfl|hb
  ·obtain ⟨h1,_⟩:=hz
   split at h1
   ·rename_i e sz xs hx;exact ⟨e,sz,xs,hx⟩
   ·cases h1
  ·exact Hg Z hz.2 b hb
theorem Fn.Zu (hF:Fn P f xs [] r [] []) (hp:dM xs=true) (hr:r.pure=true) (ha:au h [] [] xs ys) (hz:qV h (dR ys)=true):lQ P nm f ys h ⟨r,kills (dR ys),dR ys⟩:=by
 intro h' hh Q hQ
 refine Zk (dR ys) (fun b hb=> ?_) (Ci (h:=h) hh xs ys (fun b hb=>hb) ha) ((hF.G8 hp hr).use hQ)
 obtain ⟨e,sz,xs,hx⟩:=Hg _ hz b hb
 exact ⟨e,sz,xs,by rw [hh b hb];exact hx⟩
theorem lX {k:List It} {Q:Exit→St→Prop} {n n':Nat} {t:List (Nat×AV)} {d:Option Nat} {l:List aC} (hF:Fn P f xs [] r [] []) (ha:au h [] [] xs ys) (hz:qV h (dR ys)=true) (hp:dM xs=true) (hr:r.pure=true)
 (hk:go P (.ops (nm+8) n' l::k) Q n (bU t d r) (kills (dR ys)++h)):pU P nm f ys d n' l k Q n t h:=zJ (hF.Zu hp hr ha hz) hk
theorem Et {k:List It} {Q:Exit→St→Prop} {n n':Nat} {t:List (Nat×AV)} {d:Option Nat} {l ops:List aC} {acc:List bW} (hF:Fn P f xs [] r [] []) (ha:au h [] [] xs ys) (hz:qV h (dR ys)=true) (hp:dM xs=true) (hr:r.pure=true)
 (hk:go P (.dF (nm+8) n' l ops ((dR ys,(kills (dR ys)).map Prod.fst)::acc)::k) Q n (bU t d r) (kills (dR ys)++h)):pW P nm f ys d n' l ops acc k Q n t h:=zK (hF.Zu hp hr ha hz) hk
theorem Fn.Hl (hF:Fn P f xs [] r [] es) (hp:dM xs=true) (hes:es.all rowOk=true) (hm:es.length≤8) (hx:fM es.length r=true):lQ P nm f xs h ⟨sh nm r,dP nm es,[]⟩:=by
 have:=hF.vY (h:=h) nm [] [] (zO xs hp) (by simp only [qU]) (by simp) (by simp) rfl (by simp only [sO]) hes hm hx
 simpa only [iJ,List.append_nil] using this
theorem Eu {k:List It} {Q:Exit→St→Prop} {n n':Nat} {t:List (Nat×AV)} {d:Option Nat} {l:List aC} (hF:Fn P f xs [] r [] es) (hp:dM xs=true) (hes:es.all rowOk=true) (hm:es.length≤8) (hx:fM es.length r=true)
 (hk:go P (.ops (nm+8) n' l::k) Q n (bU t d (sh nm r)) (dP nm es++h)):pU P nm f xs d n' l k Q n t h:=zJ (hF.Hl hp hes hm hx) hk
theorem Qw {k:List It} {Q:Exit→St→Prop} {n n':Nat} {t:List (Nat×AV)} {d:Option Nat} {l ops:List aC} {acc:List bW} (hF:Fn P f xs [] r [] es) (hp:dM xs=true) (hes:es.all rowOk=true) (hm:es.length≤8) (hx:fM es.length r=true)
 (hk:go P (.dF (nm+8) n' l ops (([],(dP nm es).map Prod.fst)::acc)::k) Q n (bU t d (sh nm r)) (dP nm es++h)):pW P nm f xs d n' l ops acc k Q n t h:=zK (hF.Hl hp hes hm hx) hk
theorem Ho {k:List It} {Q:Exit→St→Prop} {n n':Nat} {t:List (Nat×AV)} {d:Option Nat} {l:List aC} (hF:Fn P f xs [] r [] es) (ha:au h [] [] xs ys) (hes:es.all rowOk=true) (hna:∀ o ∈ es,oC o) (hm:es.length≤8) (hx:fM es.length r=true) (hr0:na r=true)
 (hk:go P (.ops (nm+8) n' l::k) Q n (bU t d (sh nm r)) (dP nm es++h)):pU P nm f ys d n' l k Q n t h:=zJ (hF.En nm ha hes hna hm hx hr0) hk
theorem Qx {k:List It} {Q:Exit→St→Prop} {n n':Nat} {t:List (Nat×AV)} {d:Option Nat} {l ops:List aC} {acc:List bW} (hF:Fn P f xs [] r [] es) (ha:au h [] [] xs ys) (hes:es.all rowOk=true) (hna:∀ o ∈ es,oC o) (hm:es.length≤8) (hx:fM es.length r=true) (hr0:na r=true)
 (hk:go P (.dF (nm+8) n' l ops ((dR ys,(dP nm es).map Prod.fst)::acc)::k) Q n (bU t d (sh nm r)) (dP nm es++h)):pW P nm f ys d n' l ops acc k Q n t h:=zK (hF.En nm ha hes hna hm hx hr0) hk
end
attribute [go_sem] dP
end Go.Eng
namespace Go.Eng
open Go
theorem VR.Ew {w w':World} {ok ok':Nat→Prop} {ρ ρ':Nat→Loc} {U U':Nat→Prop} {S:List (Nat×Nat)} (hS:∀ k b,get S k=some b→U' k∧ρ' k=ρ b) {y:AV} {u:Value} (h:VR w ok ρ U y u) (hn:na y=true):
 ∀ x,rv [] S [] x y→VR w' ok' ρ' U' x u:=by
 have key:VR w' ok' ρ U y u:=by
  induction h with
  |p h=>exact .p (h.na hn)
  |agg hl _ ih=>exact .agg hl fun i c u h1 h2=>ih i c u h1 h2 (oz _ (by simpa [na] using hn) i c h1)
  |aF hl _ ih=>exact .aF hl fun i c u h1 h2=>ih i c u h1 h2 (oz _ (by simpa [na] using hn) i c h1)
  |fn hf hl _ ih=>exact .fn hf hl fun i c u h1 h2=>ih i c u h1 h2 (oz _ (by simpa [na] using hn) i c h1)
  |own hu h=>exact .own hu h
  |ptr=>simp [na] at hn
  |rp=>simp [na] at hn
  |mp=>simp [na] at hn
 exact key.rn hS (fun _ h=>h) (fun _ _=>rfl)
theorem gZ.Ew {w':World} {ok ok':Nat→Prop} {ρ ρ':Nat→Loc} {U U':Nat→Prop} {S:List (Nat×Nat)} (hS:∀ k b,get S k=some b→U' k∧ρ' k=ρ b) {l:Loc} {x y:Ob} (h:gZ w' ok ρ U l y) (hn:oC y)
 (hx:cO [] S [] x y):gZ w' ok' ρ' U' l x:=by
 cases y with
 |box cs=>
  cases x with
  |box ds=>
   simp only [cO] at hx
   obtain ⟨g,o,n,e,cells,h1,h2,h3,h4,h5⟩:=h
   have h6:=jB _ _ hx
   refine ⟨g,o,n,e,cells,h1,h2,h3,by omega,fun j c hj=> ?_⟩
   obtain ⟨z,h7,h8⟩:=jC _ _ hx j c hj
   obtain ⟨u,hu,hv⟩:=h5 j z h7
   exact ⟨u,hu,hv.Ew hS (hn z (List.mem_of_getElem? h7)) c h8⟩
  |_=>simp only [cO] at hx
 |row e sz xs=>
  cases x with
  |row e' sz' ys=>
   simp only [cO] at hx
   obtain ⟨rfl,rfl,rfl⟩:=hx
   rcases h with h|⟨g,o,n,cells,h1,h2,h3,h4,h5,h6⟩
   ·exact .inl h
   ·refine .inr ⟨g,o,n,cells,h1,h2,h3,h4,h5,fun k x j c hk hj=> ?_⟩
    obtain ⟨u,hu,h1c,hv⟩:=h6 k x j c hk hj
    exact ⟨u,hu,h1c,hv.na (hn x (List.mem_of_getElem? hk) c (List.mem_of_getElem? hj))⟩
  |_=>simp only [cO] at hx
 |_=>simp [oC] at hn
section
variable {P:Program} {f:FuncId} {xs ys:List AV} {bs bs' cs':List (List AV)} {es es':List Ob} {r r':AV} {h:List (Nat×Ob)} {B:List Nat} {nm:Nat} {Q:AV→List (Nat×Ob)→Prop}
theorem lW.En (hF:lW P f xs bs [] r bs' es) (ha:au h (dZ B []) [] xs ys)
 (hbl:bs.length=B.length) (hB4:B.length≤4) (hndB:B.Nodup)
 (hb:∀ (i b:Nat),B[i]? =some b→∃ cs cs0,bs[i]? =some cs∧get h b=some (.box cs0)∧au [] (dZ B []) [] cs cs0)
 (aha:bs'.length=B.length) (hcl':cs'.length=B.length) (hb':∀ (i:Nat) (c:List AV),cs'[i]? =some c→∃ x,bs'[i]? =some x∧kG x=true∧au [] (jP B nm es.length) [] c x)
 (hel:es'.length=es.length) (hm:es.length≤8) (he:∀ (i:Nat) (y:Ob),es'[i]? =some y→∃ x,es[i]? =some x∧oC x∧cO [] (jP B nm es.length) [] y x)
 (hna:na r=true) (hr':rv [] (jP B nm es.length) [] r' r) (hQ:Q r' (dP nm es'++(iJ B cs'++h))):uy P nm f ys h Q:=by
 refine ⟨hF.1,fun C ρ U w vals hr hfr hvl=> ?_⟩
 have wo:∀ b ∈ B,U b∧∃ cs0,get h b=some (.box cs0):=fun b hbB=>by
  obtain ⟨i,hi⟩:=List.mem_iff_getElem?.1 hbB
  obtain ⟨cs,cs0,_,h2,_⟩:=hb i b hi
  exact ⟨(hr.hp b _ h2).1,cs0,h2⟩
 let C':Ctx:=⟨w,aQ C (fA ρ (dZ B []) []) w,(fun g=>∃ b ∈ B,∃ o n,ρ b=Loc.at g o n),(fun i=>(B[i]?).map ρ),0,(fun g hg=>by
  obtain ⟨b,hbB,o,n,hl⟩:=hg
  obtain ⟨i,hi⟩:=List.mem_iff_getElem?.1 hbB
  exact ⟨i,o,n,by simp [hi,hl]⟩),(fun i l hl=>by
  rcases Nat.lt_or_ge i B.length with h1|h1
  ·omega
  ·simp [List.getElem?_eq_none h1] at hl),(fun _=>False),(fun _ h=>h.elim)⟩
 let ρc:Nat→Loc:=fA ρ (dZ B []) []
 let Uc:Nat→Prop:=fun k=>∃ b,get (dZ B []) k=some b
 have sQ:∀ k b,get (dZ B []) k=some b→ρc k=ρ b:=fun k b hk=>zD hk
 have wu:∀ k g o n,ρc k= .at g o n→∃ b,get (dZ B []) k=some b∧ρ b= .at g o n:=fun k g o n hk=>by
  cases hs:get (dZ B []) k with
  |none=>
   have:ρc k= .dead:=by show fA ρ (dZ B []) [] k=_;simp [fA,hs]
   rw [this] at hk;cases hk
  |some b=>exact ⟨b,rfl,by rw [←sQ k b hs];exact hk⟩
 have hown0:∀ g,jZ ρc g→jZ ρ g:=fun g ⟨k,o,n,hk⟩=>by
  obtain ⟨b,_,hb⟩:=wu k g o n hk
  exact ⟨b,o,n,hb⟩
 have Zv:∀ g,aQ C ρc w g→aQ C' ρc w g:=fun g hg=>⟨.inl hg,hg.2.1,hg.2.2⟩
 have hok:∀ g,aQ C ρ w g→aQ C' ρc w g:=fun g hg=>Zv g (Y7 hg)
 have Es:∀ k b,get (dZ B []) k=some b→Uc k∧ρc k=ρ b:=fun k b hk=>⟨⟨b,hk⟩,sQ k b hk⟩
 have Qv:∀ k,Uc k→k<8:=fun k ⟨b,hk⟩=>by
  rcases uF hk with h1|⟨h1,h2⟩
  ·have:=(List.getElem?_eq_some_iff.1 h1).1;omega
  ·simp at h2
 have hr0:HR C' ρc Uc (outs bs []) w:=by
  refine ⟨fun k o hk=> ?_,fun k hk=> ?_,fun k k' g o n o' n' h1 h2=> ?_,rfl,rfl,rfl,Nat.le_refl _,fun g _ _ _=>rfl,
   fun g hg=>⟨hg.2.1,fun ⟨b,hbB,o,n,hl⟩=>by
    obtain ⟨i,hi⟩:=List.mem_iff_getElem?.1 hbB
    have hs:=Ep (G:=[]) hi hB4
    exact hg.2.2 ⟨i,o,n,(sQ i b hs).trans hl⟩,fun h=>h⟩,fun g ho=> ?_,fun i l hi=> ?_⟩
  ·unfold outs at hk
   rw [get_append,je,jM] at hk
   simp only [Nat.zero_le,if_true,Nat.sub_zero,List.getElem?_map] at hk
   cases hbk:bs[k]? with
   |some cs=>
    rw [hbk] at hk
    simp only [Option.map_some,Option.some.injEq] at hk
    subst hk
    have hlt:k<B.length:=by rw [←hbl];exact (List.getElem?_eq_some_iff.1 hbk).1
    have hib:B[k]? =some B[k]:=List.getElem?_eq_getElem hlt
    obtain ⟨cs1,cs0,h1,h2,h3⟩:=hb k _ hib
    rw [hbk] at h1;cases h1
    have hs:=Ep (G:=[]) hib hB4
    refine ⟨⟨_,hs⟩,?_⟩
    rw [sQ k _ hs]
    exact (hr.hp _ _ h2).2.rn Es hok (fun _ _=>rfl) (fun _ _ _ _=>rfl) (by simp only [cO];exact h3)
   |none=>
    rw [hbk] at hk
    simp only [Option.map_none] at hk
    simp [dP,get] at hk
  ·cases hs:get (dZ B []) k with
   |none=>show fA ρ (dZ B []) [] k=_;simp [fA,hs]
   |some b=>
    unfold outs at hk
    rw [get_append,je,jM] at hk
    simp only [Nat.zero_le,if_true,Nat.sub_zero,List.getElem?_map] at hk
    rcases uF hs with h1|⟨h1,h2⟩
    ·have hlt:k<bs.length:=by rw [hbl];exact (List.getElem?_eq_some_iff.1 h1).1
     rw [List.getElem?_eq_getElem hlt] at hk
     simp at hk
    ·simp at h2
  ·obtain ⟨b,hs,hl⟩:=wu k g o n h1
   obtain ⟨b',hs',hl'⟩:=wu k' g o' n' h2
   have e:=hr.inj b b' g o n o' n' hl hl'
   subst e
   rcases uF hs with h3|⟨h3,h4⟩<;>rcases uF hs' with h5|⟨h5,h6⟩
   ·obtain ⟨p1,q1⟩:=List.getElem?_eq_some_iff.1 h3
    obtain ⟨p2,q2⟩:=List.getElem?_eq_some_iff.1 h5
    exact (List.getElem_inj hndB).1 (q1.trans q2.symm)
   ·exact absurd h6 (by simp)
   ·exact absurd h4 (by simp)
   ·simp at h4
  ·obtain ⟨k,o,n,hk⟩:=ho
   obtain ⟨b,hs,hl⟩:=wu k g o n hk
   refine ⟨?_,(hr.dV g ⟨b,o,n,hl⟩).2⟩
   rcases uF hs with h3|⟨h3,h4⟩
   ·exact .inl ⟨b,List.mem_of_getElem? h3,o,n,hl⟩
   ·simp at h4
  ·have hlt:i<B.length:=by
    rcases Nat.lt_or_ge i B.length with h1|h1
    ·exact h1
    ·simp [C',List.getElem?_eq_none h1] at hi
   have hib:B[i]? =some B[i]:=List.getElem?_eq_getElem hlt
   obtain ⟨cs,cs1,h1,h2,h3⟩:=hb i _ hib
   have hs:=Ep (G:=[]) hib hB4
   refine ⟨?_,⟨_,hs⟩,cs,?_⟩
   ·rw [sQ i _ hs]
    simp only [C',hib,Option.map_some,Option.some.injEq] at hi
    exact hi
   ·exact Cc h1
 have zN:VL w (aQ C' ρc w) ρc Uc xs vals:=by
  have hl:=jB _ _ ha
  refine ⟨by rw [hl];exact hvl.1,fun i x u hi hu=> ?_⟩
  obtain ⟨y,hy,hxy⟩:=jC _ _ ha i x hi
  exact (pM hr (hvl.2 i y u hy hu) x hxy).mono Zv (fun _ _=>rfl) (fun k hk=>by
   rcases hk with hk|hk
   ·exact xQ hk
   ·simp at hk) (fun _ _=> .inl rfl)
 refine (hF.2 C' ρc Uc w vals hr0 Qv zN).mono fun e w' hpost=> ?_
 obtain ⟨v,ρ1,U1,rfl,hr1,hv1⟩:=hpost
 let ρ2:Nat→Loc:=fun k=>if nm≤k∧k<nm+es.length then ρ1 (4+(k - nm)) else ρ k
 let U2:Nat→Prop:=fun k=>U k∨(nm≤k∧k<nm+es.length)
 have zQ:∀ k,nm≤k∧k<nm+es.length→ρ2 k=ρ1 (4+(k - nm)):=fun k hk=>by show (if _ then _ else _)=_;rw [if_pos hk]
 have sS:∀ k,U k→ρ2 k=ρ k:=fun k hk=>by
  show (if _ then _ else _)=_
  rw [if_neg (fun hh=>hfr k hk ⟨hh.1,by omega⟩)]
 have hsz:w.heap.size≤w'.heap.size:=hr1.size
 have hoff:∀ i g o n,i<es.length→ρ1 (4+i)= .at g o n→w.heap.size≤g∧g<w'.heap.size:=fun i g o n hi hl=>by
  obtain ⟨h1,h2⟩:=hr1.dV g ⟨_,o,n,hl⟩
  refine ⟨?_,h2⟩
  rcases h1 with h1|h1|h1
  ·obtain ⟨b,o',n',hb⟩:=C'.BD g h1
   obtain ⟨h3,_,_⟩:=hr1.fix b _ hb
   have:=hr1.inj (4+i) b g o n o' n' hl h3
   have:=C'.Gi b _ hb
   omega
  ·exact h1.elim
  ·exact h1
 have hold:∀ k g o n,ρ k= .at g o n→g<w.heap.size:=fun k g o n hl=>(hr.dV g ⟨k,o,n,hl⟩).2
 have hheap:∀ g,g<w.heap.size→(∀ b ∈ B,∀ o n,ρ b≠.at g o n)→w'.heap[g]? =w.heap[g]? :=fun g hg h1=>
  hr1.old g hg (fun ⟨b,hbB,o,n,hl⟩=>h1 b hbB o n hl) (fun h=>h)
 have hcase:∀ k g o n,ρ2 k= .at g o n→(∃ i,k=nm+i∧i<es.length∧ρ1 (4+i)= .at g o n)∨ρ k= .at g o n:=fun k g o n hk=>by
  by_cases h1:nm≤k∧k<nm+es.length
  ·rw [zQ k h1] at hk
   exact .inl ⟨k - nm,by omega,by omega,hk⟩
  ·have:ρ2 k=ρ k:=by show (if _ then _ else _)=_;rw [if_neg h1]
   rw [this] at hk
   exact .inr hk
 have hok2:∀ g,aQ C ρ w g→aQ C ρ2 w' g:=fun g hg=>⟨hg.1,by have:=hg.2.1;omega,fun ⟨k,o,n,hk⟩=>by
  rcases hcase k g o n hk with ⟨i,rfl,hi,hl⟩|hl
  ·have:=(hoff i g o n hi hl).1
   have:=hg.2.1;omega
  ·exact hg.2.2 ⟨k,o,n,hl⟩⟩
 have xU:∀ g,aQ C ρ w g→w'.heap[g]? =w.heap[g]? :=fun g hg=>hheap g hg.2.1 (fun b _ o n hl=>hg.2.2 ⟨b,o,n,hl⟩)
 have qQ:Later U ρ ρ2:=fun k hk=> .inl (sS k hk)
 have hSo:∀ k i,get (jP B nm es.length) k=some i→U2 k∧ρ2 k=ρ1 i:=fun k i hk=>by
  rcases Zl hk with h1|⟨h1,h2,rfl⟩
  ·have hkB:=List.mem_of_getElem? h1
   have hfx:=(hr1.fix i (ρ k) (by show (B[i]?).map ρ=_;rw [h1];rfl)).1
   exact ⟨.inl (wo k hkB).1,by rw [sS k (wo k hkB).1,hfx]⟩
  ·exact ⟨.inr ⟨h1,h2⟩,zQ k ⟨h1,h2⟩⟩
 refine ⟨v,r',_,ρ2,U2,rfl,⟨fun k o hk=> ?_,fun k hk=> ?_,fun k k' g o n o' n' h1 h2=> ?_,hr1.os.trans hr.os,hr1.tape.trans hr.tape,hr1.output.trans hr.output,Nat.le_trans hr.size hsz,
  fun g hg he hv=> ?_,hr.lM,fun g ho=> ?_,fun b l hb2=> ?_⟩,hv1.Ew hSo hna r' hr',fun x u hx=>hx.mono hok2 xU (fun k hk=> .inl hk) qQ,fun b hb2=> ?_,hQ⟩
 ·rw [get_append,jM] at hk
  by_cases hin:nm≤k∧k<nm+es.length
  ·have hi:k - nm<es'.length:=by omega
   rw [if_pos hin.1,List.getElem?_eq_getElem hi] at hk
   cases hk
   obtain ⟨x,hx1,hxn,hx2⟩:=he (k - nm) _ (List.getElem?_eq_getElem hi)
   refine ⟨.inr hin,?_⟩
   rw [zQ k hin]
   have hgt:get (outs bs' es) (4+(k - nm))=some x:=GU (by omega) hx1
   exact (hr1.hp _ _ hgt).2.Ew hSo hxn hx2
  ·have hno:(if nm≤k then es'[k - nm]? else none)=none:=by
    split
    ·exact List.getElem?_eq_none (by omega)
    ·rfl
   rw [hno] at hk
   simp only [get_append] at hk
   cases hbx:get (iJ B cs') k with
   |some o'=>
    rw [hbx] at hk;cases hk
    obtain ⟨i,c2,h1,h2,rfl⟩:=zG B cs' k _ hbx
    have hkB:=List.mem_of_getElem? h1
    refine ⟨.inl (wo k hkB).1,?_⟩
    obtain ⟨x,hx1,hxn,hx2⟩:=hb' i c2 h2
    have hfx:=(hr1.fix i (ρ k) (by show (B[i]?).map ρ=_;rw [h1];rfl)).1
    rw [sS k (wo k hkB).1,←hfx]
    exact (hr1.hp i _ (Cc hx1)).2.Ew hSo (fun c hc=>by
     obtain ⟨j,hj⟩:=List.mem_iff_getElem?.1 hc
     exact oz _ hxn j c hj) (by simp only [cO];exact hx2)
   |none=>
    rw [hbx] at hk
    simp only at hk
    obtain ⟨vX,ho⟩:=hr.hp k o hk
    refine ⟨.inl vX,?_⟩
    rw [sS k vX]
    refine gZ.mono hok2 xU (fun k hk=> .inl hk) qQ (fun g o n hl=>hheap g (hold k g o n hl) (fun b hbB o' n' hb2=> ?_)) ho
    have:=hr.inj k b g o n o' n' hl hb2
    subst this
    exact GV B cs' k hbx hcl'.symm hbB
 ·rw [get_append,jM] at hk
  have hin:¬ (nm≤k∧k<nm+es.length):=fun hh=>by
   rw [if_pos hh.1,List.getElem?_eq_getElem (show k - nm<es'.length by omega)] at hk
   cases hk
  have hno:(if nm≤k then es'[k - nm]? else none)=none:=by
   split
   ·exact List.getElem?_eq_none (by omega)
   ·rfl
  rw [hno] at hk
  simp only [get_append] at hk
  show (if _ then _ else _)=_
  rw [if_neg hin]
  cases hbx:get (iJ B cs') k with
  |some o'=>rw [hbx] at hk;cases hk
  |none=>
   rw [hbx] at hk
   simp only at hk
   exact hr.hd k hk
 ·rcases hcase k g o n h1 with ⟨i,rfl,hi,hl⟩|hl<;>rcases hcase k' g o' n' h2 with ⟨i',rfl,hi',hl'⟩|hl'
  ·have:=hr1.inj _ _ g o n o' n' hl hl'
   omega
  ·have:=(hoff i g o n hi hl).1
   have:=hold _ g o' n' hl';omega
  ·have:=(hoff i' g o' n' hi' hl').1
   have:=hold _ g o n hl;omega
  ·exact hr.inj _ _ g o n o' n' hl hl'
 ·have hg':g<w.heap.size:=Nat.lt_of_lt_of_le hg hr.size
  rw [←hr.old g hg he hv]
  have key:∀ b o n,ρ b≠.at g o n:=fun b o n hl=>by
   rcases (hr.dV g ⟨b,o,n,hl⟩).1 with h1|h1|h1
   ·exact he h1
   ·exact hv h1
   ·omega
  exact hheap g hg' (fun b _=>key b)
 ·obtain ⟨k,o,n,hk⟩:=ho
  rcases hcase k g o n hk with ⟨i,rfl,hi,hl⟩|hl
  ·have h1:=hoff i g o n hi hl
   exact ⟨.inr (.inr (Nat.le_trans hr.size h1.1)),h1.2⟩
  ·exact ⟨(hr.dV g ⟨k,o,n,hl⟩).1,by have:=hold k g o n hl;omega⟩
 ·obtain ⟨h1,h2,cs0,h3⟩:=hr.fix b l hb2
  refine ⟨by rw [sS b h2];exact h1,.inl h2,?_⟩
  have hin:¬ (nm≤b∧b<nm+es.length):=fun hh=>hfr b h2 ⟨hh.1,by omega⟩
  have hno:(if nm≤b then es'[b - nm]? else none)=none:=by
   split
   ·exact List.getElem?_eq_none (by omega)
   ·rfl
  rw [get_append,jM,hno]
  simp only [get_append]
  cases hbx:get (iJ B cs') b with
  |some o'=>
   obtain ⟨i,c2,_,_,rfl⟩:=zG B cs' b _ hbx
   exact ⟨c2,rfl⟩
  |none=>
   exact ⟨cs0,h3⟩
 ·rcases hb2 with h1|h1
  ·exact .inl h1
  ·exact .inr ⟨h1.1,by omega⟩
end
end Go.Eng
namespace Go.Eng
open Go
end Go.Eng
