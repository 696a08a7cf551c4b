/-
  Part of a proof: lemmas and definitions of this work.
  No condition.
-/
import Derived.Test.YthhjbngoibmpgaaGreatH08
import Derived.Test.YthhjbngoibmpgaaGreatH12
set_option linter.all false
set_option maxRecDepth 100000
set_option maxHeartbeats 8000000
namespace Go.Eng
open Go
def ol (b:HB) (c:Nat) (e:Int):aG:=⟨2,e,((b.sh c).counts e 2).1,((b.sh c).counts e 2).2⟩
section
variable {b:HB} {f:Nat->Int} {g:Nat->aG} {s:ah} {m p:Nat} {k:Int} {q:Nat->List Int×Nat} {l:List Nat}
theorem abm (hb:b.ok) {e0 e:Int} (c:Nat) (h0:0<=e) (h1:e<=65536):(⟨1,e0,0,0⟩:aG).done (b.sh c) e 2=(ol b c e,0):=by
 unfold aG.done ol
 have:=hb.sv c
 have h2:decide (e<0)=false:=by simp;omega
 have h3:decide ((65536:Int)<e)=false:=by simp;omega
 simp [this,h2,h3]
theorem O6 {cells:List Int} {i c:Nat} (hc:cells=nI l) (hi:l[i]? =some c):gI cells i=(c:Int):=by rw [hc];exact HZ hi
structure Mid (b:HB) (l:List Nat) (f:Nat->Int) (s:ah):Prop where
 le:∀ c ∈ l,c<=b.n
 ce:s.lock.cells=nI l
 ph:s.lock.phase=3
 go:s.lock.got=(l.length:Int)
 own:∀ c ∈ l,f c=9
 li:s.limit=2
 ca:s.carry=[]
 sh:∀ i c,l[i]? =some c->c<b.n->i<s.aA.length/\bV s.aA i=b.sh c
 st:∀ i c,l[i]? =some c->c<b.n->i<s.aH.length/\∃ e,fC s.aH i=⟨1,e,0,0⟩
 sl:s.aA.length=s.aH.length
 sn:∀ i,i<s.aH.length->∃ c,l[i]? =some c/\c<b.n
 de:b.n ∈ l->s.dead=b.dd
def rC (b:HB) (l:List Nat) (g:Nat->aG):Prop:=∀ c ∈ l,c<b.n->(g c).seq.tmod 2=1
theorem Mid.hC (h:Mid b l f s) (hg:rC b l g) {s':ah} (h1:3<=s'.phase) (h2:s'.phase<=5) (hs:s'.aA=s.aA):pJ (nI l) (b.at f g) s':=by
 refine kY h.le fun i c hi=> ?_
 have hm:c ∈ l:=List.mem_of_getElem? hi
 refine ⟨fun _ _=>h.own c hm,fun h9=>by omega,fun hn=>⟨fun _ _=>hg c hm hn,fun _=>by omega,fun _ _=> ?_⟩⟩
 rw [hs];exact h.sh i c hi hn
theorem Mid.O7 (h:Mid b l f s) {s':ah} (h1:s'.phase=7):pJ (nI l) (b.at f g) s':=by
 refine kY h.le fun i c hi=> ?_
 have hm:c ∈ l:=List.mem_of_getElem? hi
 exact ⟨fun _ _=>h.own c hm,fun h9=>by omega,fun hn=>⟨fun _ _=>by omega,fun _=>by omega,fun _ _=>by omega⟩⟩
theorem Mid.O8 (h:Mid b l f s) {s':ah} (h1:s'.phase=8) (hq:∀ i,(g i).seq.tmod 2=0):pJ (nI l) (b.at f g) s':=by
 refine kY h.le fun i c hi=> ?_
 exact ⟨fun _ _=>by omega,fun h9=>by omega,fun hn=>⟨fun _ _=>by omega,fun _=>by rw [hq];decide,fun _ _=>by omega⟩⟩
theorem O9 (h:Mid b l f s) (hl:(∃ c,l=[c])\/∃ c d,l=[c,d]/\c≠d) {s':ah} (h8:s'.phase=8) (hk:s'.lock={s.lock with phase:=4}) (hq:∀ i,(g i).seq.tmod 2=0):eU q (nI l) (m+2) k (b.at f g) s' p:=by
 rcases hl with ⟨c,hl⟩|⟨c,d,hl,hcd⟩
 ·have hg:=h.go
  rw [hl] at hg
  exact abk hl h8 (by rw [hk];exact h.ce) (by rw [hk]) (by rw [hk];simpa using hg) (h.le c (by simp [hl])) (h.own c (by simp [hl])) hq
 ·have hg:=h.go
  rw [hl] at hg
  exact abl hl hcd h8 (by rw [hk];exact h.ce) (by rw [hk]) (by rw [hk];simpa using hg) (h.le c (by simp [hl])) (h.le d (by simp [hl])) (h.own c (by simp [hl])) (h.own d (by simp [hl])) hq
theorem Pb {t:aC} (h:t.phase=3):t.free=({t with phase:=4},0):=by unfold aC.free;simp [h]
theorem Pd (hb:b.ok) (h:Mid b l f s) {i c:Nat} {e1:Int} (hat:s.at_=i) (hi:l[i]? =some c) (hn:c<b.n) (h0:0<=s.aO.epoch) (h1:s.aO.epoch<=65536) (ho:s.out.aA=s.aA):
 s.ji (b.at f g) 9=(if i+1=s.aH.length then (b.at f (upd g c (ol b c s.aO.epoch)),ah.enter {s with at_:=(i:Int)+1,lock:={s.lock with phase:=4}} 8,0)
  else (b.at f (upd g c (ol b c s.aO.epoch)),{s with at_:=(i:Int)+1},0)):=by
 obtain ⟨h2,h3⟩:=h.sh i c hi hn
 obtain ⟨h4,e,h5⟩:=h.st i c hi hn
 have hm:c ∈ l:=List.mem_of_getElem? hi
 have hd:=abm hb (e0:=e) c h0 h1
 have hc0:=hb.c0 c s.aO.epoch 2
 have hc1:=hb.c1 c s.aO.epoch 2
 have hst:=HB.ss (f:=f) (g:=g) hn (h.own c hm) (s:=ol b c s.aO.epoch) (by simp [ol]) (by simp [ol];omega) (by simp only [ol];omega) (by simp only [ol];omega)
 have e7:(if s.tJ s.at_ then bV s.out.aA i else bV s.aA i)=b.sh c:=by rw [ho];split<;>exact h3
 unfold ah.ji
 simp only [hat,Int.toNat_natCast] at e7 ⊢
 rw [e7,h5,h.li,hd,O6 h.ce hi]
 simp only [hst]
 unfold ah.eD
 rw [Pb (t:=s.lock) h.ph]
 by_cases hz:i+1=s.aH.length
 ·have:((i:Int)+1==(s.aH.length:Int))=true:=by simp;omega
  simp [hz,this,ah.enter]
 ·have:((i:Int)+1==(s.aH.length:Int))=false:=by simp;omega
  simp [hz,this]
theorem Pe {a:ai} {t:Int} (h:s.phase=7):s.step0 a t k=s.ji a t:=by unfold ah.step0;simp [h]
theorem Pf (hb:b.ok) (hl:(∃ c,l=[c])\/∃ c d,l=[c,d]/\c≠d):∀ (r i:Nat) (g:Nat->aG) (s:ah) (k:Int),Mid b l f s->s.phase=7->s.at_=i->i+r+1=s.aH.length->0<=s.aO.epoch->s.aO.epoch<=65536->s.out.aA=s.aA->
 (∀ j,(g j).seq.tmod 2=0\/∃ t:Nat,i<=t/\l[t]? =some j/\j<b.n)->eU q (nI l) (m+2+(r+1)) k (b.at f g) s p
 |0,i,g,s,k,h,h7,hat,hr,h0,h1,ho,hg=>by
  obtain ⟨c,hi,hn⟩:=h.sn i (by omega)
  have hu:=Pd (g:=g) (e1:=0) hb h hat hi hn h0 h1 ho
  rw [if_pos (by omega)] at hu
  have hq:∀ j,(upd g c (ol b c s.aO.epoch) j).seq.tmod 2=0:=fun j=>by
   by_cases hj:j=c
   ·subst hj;rw [upd_same];rfl
   ·rw [upd_ne _ _ hj]
    rcases hg j with hg|⟨t,ht,hx,hy⟩
    ·exact hg
    ·exfalso
     have:=h.st t j hx hy
     have:t=i:=by omega
     subst this
     rw [hi] at hx;exact hj (Option.some.inj hx).symm
  refine eX (m:=m+2) (by omega) (by omega) (by omega) (by omega) ((Pe h7).trans hu) (h.O8 rfl hq) (O9 h hl rfl rfl hq)
 |r+1,i,g,s,k,h,h7,hat,hr,h0,h1,ho,hg=>by
  obtain ⟨c,hi,hn⟩:=h.sn i (by omega)
  have hu:=Pd (g:=g) (e1:=0) hb h hat hi hn h0 h1 ho
  rw [if_neg (by omega)] at hu
  refine eX (m:=m+2+(r+1)) (by omega) (by omega) (by omega) (by omega) ((Pe h7).trans hu) (h.O7 h7)
   (Pf hb hl r (i+1) _ _ _ ⟨h.le,h.ce,h.ph,h.go,h.own,h.li,h.ca,h.sh,h.st,h.sl,h.sn,h.de⟩ h7 (by simp) (by simp only;omega) h0 h1 ho fun j=> ?_)
  by_cases hj:j=c
  ·subst hj;rw [upd_same];exact .inl rfl
  ·rw [upd_ne _ _ hj]
   rcases hg j with hg|⟨t,ht,hx,hy⟩
   ·exact .inl hg
   ·refine .inr ⟨t,?_,hx,hy⟩
    have:t≠i:=fun e=>by subst e;rw [hi] at hx;exact hj (Option.some.inj hx).symm
    omega
theorem Pg (hb:b.ok) (hl:(∃ c,l=[c])\/∃ c d,l=[c,d]/\c≠d) (h:Mid b l f s) (h0:0<=s.aO.epoch) (h1:s.aO.epoch<=65536) (ho:s.out.aA=s.aA) (hg:∀ j,(g j).seq.tmod 2=0\/∃ t:Nat,l[t]? =some j/\j<b.n):
 s.dz.2=0/\pJ (nI l) (b.at f g) s.dz.1/\eU q (nI l) (m+2+s.aH.length) k (b.at f g) s.dz.1 p:=by
 unfold ah.dz
 by_cases hz:0<s.aH.length
 ·rw [if_pos hz]
  refine ⟨rfl,h.O7 rfl,?_⟩
  have:=Pf (m:=m) (p:=p) (q:=q) hb hl (s.aH.length - 1) 0 g (s.enter 7) k ⟨h.le,h.ce,h.ph,h.go,h.own,h.li,h.ca,h.sh,h.st,h.sl,h.sn,h.de⟩ rfl rfl (by simp only [ah.enter];omega) h0 h1 ho fun j=>by
   rcases hg j with hg|⟨t,hx⟩
   ·exact .inl hg
   ·exact .inr ⟨t,Nat.zero_le _,hx⟩
  rw [show s.aH.length - 1+1=s.aH.length by omega] at this
  exact this
 ·rw [if_neg hz]
  unfold ah.eD
  rw [Pb h.ph]
  have hq:∀ j,(g j).seq.tmod 2=0:=fun j=>by
   rcases hg j with hg|⟨t,hx,hy⟩
   ·exact hg
   ·have:=(h.st t j hx hy).1;omega
  refine ⟨rfl,h.O8 rfl hq,?_⟩
  rw [show s.aH.length=0 by omega]
  exact O9 h hl rfl rfl hq
theorem abn (hb:b.ok) (hl:(∃ c,l=[c])\/∃ c d,l=[c,d]/\c≠d) (h:Mid b l f s) (h4:s.phase=4) (h0:0<=s.aO.epoch) (h1:s.aO.epoch<=65536) (hod:rC b l g) (hg:∀ j,(g j).seq.tmod 2=0\/∃ t:Nat,l[t]? =some j/\j<b.n)
 (hq:(q p).1=[]\/∃ j:Nat,j<l.length/\(q p).1=[(j:Int)]):eU q (nI l) (m+2+s.aH.length+2) k (b.at f g) s p:=by
 rcases hq with hq|⟨j,hj,hq⟩
 ·have hu:=Pg (m:=m+1) (p:=(q p).2) (q:=q) (g:=g) (k:=k+1) hb hl (s:={s with out:=s.bg}) ⟨h.le,h.ce,h.ph,h.go,h.own,h.li,h.ca,h.sh,h.st,h.sl,h.sn,h.de⟩ h0 h1 rfl hg
  have e:s.fE {s.bg with order:=(q p).1}=ah.dz {s with out:=s.bg}:=by
   unfold ah.fE
   rw [hq]
   simp [h4,ah.bg,fe]
  refine O5 (m:=m+2+s.aH.length+1) (s':=(ah.dz {s with out:=s.bg}).1) h4 (by rw [e];exact Prod.ext rfl hu.1) ?_
  rw [show m+2+s.aH.length+1=m+1+2+s.aH.length by omega]
  exact hu.2.2
 ·have hc:s.lock.cells.length=l.length:=by rw [h.ce];simp [nI]
  have e:s.fE {s.bg with order:=(q p).1}=(ah.enter {s with out:={s.bg with order:=[(j:Int)]}} 5,0):=by
   unfold ah.fE
   rw [hq]
   have h2:decide ((j:Int)<(s.lock.cells.length:Int))=true:=by simp;omega
   simp [h4,ah.bg,fe,h2]
   omega
  refine O5 (m:=m+2+s.aH.length+1) h4 e ?_
  have hM:Mid b l f {s with out:={s.bg with order:=[(j:Int)]},at_:=1,carry:=[]}:=⟨h.le,h.ce,h.ph,h.go,h.own,h.li,rfl,h.sh,h.st,h.sl,h.sn,h.de⟩
  have hu:=Pg (m:=m) (p:=(q p).2) (q:=q) (g:=g) (k:=k+1+1) hb hl (s:={s with phase:=5,out:={s.bg with order:=[(j:Int)]},at_:=1,carry:=[]}) ⟨h.le,h.ce,h.ph,h.go,h.own,h.li,rfl,h.sh,h.st,h.sl,h.sn,h.de⟩ h0 h1 rfl hg
  have hi:l[j]? =some l[j]:=List.getElem?_eq_getElem hj
  have hm:l[j] ∈ l:=List.getElem_mem hj
  have hle:=h.le _ hm
  have ey:(if gI s.lock.cells j==((b.at f g).slots.length:Int) then (b.at f g).iC 9 s.dead else (b.at f g).iB (gI s.lock.cells j) 9 (bV s.aA j))=(b.at f g,0):=by
   rw [O6 h.ce hi,HB.len]
   by_cases hn:l[j]=b.n
   ·have:((l[j]:Int)==(b.n:Int))=true:=by simp;omega
    rw [if_pos this,h.de (hn▸hm)]
    exact HB.sd (hn▸h.own _ hm) hb.dv
   ·have:((l[j]:Int)==(b.n:Int))=false:=by simp;omega
    have hlt:l[j]<b.n:=by omega
    rw [if_neg (by rw [this];decide),(h.sh j _ hi hlt).2]
    exact HB.so hlt (h.own _ hm) (hb.sv _)
  refine eX (m:=m+2+s.aH.length) (a':=b.at f g) (s':=(ah.dz {s with phase:=5,out:={s.bg with order:=[(j:Int)]},at_:=1,carry:=[]}).1) (by simp [ah.enter]) (by simp [ah.enter]) (by simp [ah.enter]) (by simp [ah.enter]) ?_ hu.2.1 hu.2.2
  have ek:gI [(j:Int)] (Int.toNat 0)=(j:Int):=rfl
  have e5:∀ (z:ah),z.phase=5->z.step0 (b.at f g) 9 (k+1)=z.store (b.at f g) 9:=fun z hz=>by unfold ah.step0;simp [hz]
  rw [e5 _ rfl]
  unfold ah.store
  simp only [ah.enter,ah.bg,ek,Int.toNat_natCast] at hu ⊢
  simp only [ey]
  simp
  simpa using hu.1
theorem BB (hb:b.ok) (hl:(∃ c,l=[c])\/∃ c d,l=[c,d]/\c≠d) (h:Mid b l f s) (h3:s.phase=3) (hsn:s.aO=dx.z) (hod:rC b l g) (hg:∀ j,(g j).seq.tmod 2=0\/∃ t:Nat,l[t]? =some j/\j<b.n)
 (hq:(q p).1=[]\/∃ j:Nat,j<l.length/\(q p).1=[(j:Int)]):eU q (nI l) (m+2+s.aH.length+5) k (b.at f g) s p:=by
 have e0:=hb.e0
 have e1:=hb.e1
 refine eX (m:=m+2+s.aH.length+4) (a':=b.at f g) (s':={s with aO:=⟨1,b.ep,0,0⟩}) (by omega) (by omega) (by omega) (by omega) ?_ (h.hC hod (by simp [h3]) (by simp [h3]) rfl) ?_
 ·unfold ah.step0 dx.step
  simp [h3,hsn,HB.at]
 refine eX (m:=m+2+s.aH.length+3) (a':=b.at f g) (s':={s with aO:=⟨2,b.ep,b.ck,k+1⟩}) (by simp [h3]) (by simp [h3]) (by simp [h3]) (by simp [h3]) ?_ (h.hC hod (by simp [h3]) (by simp [h3]) rfl) ?_
 ·unfold ah.step0 dx.step
  simp [h3,HB.at]
 refine eX (m:=m+2+s.aH.length+2) (a':=b.at f g) (s':=ah.enter {s with aO:=⟨3,b.ep,b.ck,k+1⟩} 4) (by simp [h3]) (by simp [h3]) (by simp [h3]) (by simp [h3]) ?_ (h.hC hod (by simp [ah.enter]) (by simp [ah.enter]) rfl) ?_
 ·unfold ah.step0 dx.step
  simp [h3,HB.at]
 exact abn hb hl ⟨h.le,h.ce,h.ph,h.go,h.own,h.li,h.ca,h.sh,h.st,h.sl,h.sn,h.de⟩ rfl e0 e1 hod hg hq
end
end Go.Eng
namespace Go.Eng
open Go
section
variable {b:HB} {m p:Nat} {k:Int} {q:Nat->List Int×Nat}
def fr:Nat->Int:=fun _=>0
def bT (b:HB):Nat->aG:=fun _=>⟨0,b.ep,0,0⟩
def od (b:HB):aG:=⟨1,b.ep,0,0⟩
theorem BD (b:HB) (c:Nat):(bT b c).begin=(od b,0):=by unfold aG.begin bT od;simp
def fO (l:List Nat):ah:={ah.z with lock:=⟨nI l,0,0,0,0⟩,limit:=2}
def aI (l:List Nat) (ph at_:Int) (st:List aG) (sh:List aj) (d:Dead):ah:={ah.z with phase:=ph,at_:=at_,lock:=⟨nI l,3,l.length,0,0⟩,limit:=2,aH:=st,aA:=sh,dead:=d}
theorem BF {f:Nat->Int} {g:Nat->aG} {c:Nat} (hb:b.ok) (h:c<b.n) (h0:f c=9):(b.at f g).gU (c:Int) 9 (od b)=(b.at f (upd g c (od b)),0):=by
 have:=hb.e0
 have:=hb.e1
 exact HB.ss h h0 (by simp [od]) (by simp only [od];omega) (by simp [od]) (by simp [od])
theorem abo (hb:b.ok) (hq:(q p).1=[]\/∃ j:Nat,j<1/\(q p).1=[(j:Int)]):eU q (nI [b.n]) (m+20) k (b.at fr (bT b)) (fO [b.n]) p:=by
 have t1:=HB.tl (b:=b) (f:=fr) (g:=bT b) (c:=b.n) (Nat.le_refl _) rfl
 have hle:∀ c ∈ [b.n],c<=b.n:=by simp
 refine eX (m:=m+19) (a':=b.at (upd fr b.n 9) (bT b)) (s':=aI [b.n] 2 0 [] [] Dead.z) (by simp [fO,ah.z]) (by simp [fO,ah.z]) (by simp [fO,ah.z]) (by simp [fO,ah.z]) ?_ ?_ ?_
 ·unfold ah.step0 aC.step
  simp only [fO,nI,ah.z,gI,List.map_cons,List.map_nil,Int.toNat_zero,List.getElem?_cons_zero,Option.getD_some,t1,tX,ah.enter]
  simp [aI,nI]
 ·refine kY hle fun i c hi=> ?_
  have hc:c=b.n:=by rcases i with _|i<;>simp_all
  subst hc
  exact ⟨fun _ _=>by rw [upd_same],fun h=>absurd h (by simp [aI]),fun h=>absurd h (Nat.lt_irrefl _)⟩
 have hM:Mid b [b.n] (upd fr b.n 9) (aI [b.n] 3 0 [] [] b.dd):=by
  refine ⟨hle,rfl,rfl,rfl,fun c hc=> ?_,rfl,rfl,fun i c hi hn=> ?_,fun i c hi hn=> ?_,rfl,fun i hi=> ?_,fun _=>rfl⟩
  ·simp at hc;subst hc;rw [upd_same]
  ·exfalso;have:c=b.n:=by rcases i with _|i<;>simp_all
   omega
  ·exfalso;have:c=b.n:=by rcases i with _|i<;>simp_all
   omega
  ·simp [aI] at hi
 have hod:rC b [b.n] (bT b):=fun c hc hn=>by simp at hc;omega
 refine eX (m:=m+18) (a':=b.at (upd fr b.n 9) (bT b)) (s':=aI [b.n] 3 0 [] [] b.dd) (by simp [aI]) (by simp [aI]) (by simp [aI]) (by simp [aI]) ?_ (hM.hC hod (by simp [aI]) (by simp [aI]) rfl) ?_
 ·unfold ah.step0 ah.load
  simp only [aI,nI,gI,List.map_cons,List.map_nil,Int.toNat_zero,List.getElem?_cons_zero,Option.getD_some,HB.len,ah.enter]
  simp [HB.at]
 have:=BB (q:=q) (p:=p) (m:=m+11) (k:=k+1+1) (g:=bT b) hb (.inl ⟨_,rfl⟩) hM rfl rfl hod (fun _=> .inl rfl) (by simpa using hq)
 exact this
theorem abp (hb:b.ok) {c:Nat} (hc:c<b.n) (hq:(q p).1=[]\/∃ j:Nat,j<1/\(q p).1=[(j:Int)]):eU q (nI [c]) (m+20) k (b.at fr (bT b)) (fO [c]) p:=by
 have t1:=HB.tl (b:=b) (f:=fr) (g:=bT b) (c:=c) (by omega) rfl
 have hf:upd fr c 9 c=9:=upd_same ..
 have hci:decide ((c:Int)<(b.n:Int))=true:=by simp;omega
 have hne:((c:Int)==(b.n:Int))=false:=by simp;omega
 have hle:∀ x ∈ [c],x<=b.n:=by simp;omega
 have hx:∀ {i x:Nat},[c][i]? =some x->i=0/\x=c:=fun {i x} hi=>by rcases i with _|i<;>simp_all
 refine eX (m:=m+19) (a':=b.at (upd fr c 9) (bT b)) (s':=aI [c] 1 0 [] [] Dead.z) (by simp [fO,ah.z]) (by simp [fO,ah.z]) (by simp [fO,ah.z]) (by simp [fO,ah.z]) ?_ ?_ ?_
 ·unfold ah.step0 aC.step
  simp only [fO,nI,ah.z,gI,List.map_cons,List.map_nil,Int.toNat_zero,List.getElem?_cons_zero,Option.getD_some,t1,tX,ah.enter]
  simp [aI,nI,hci,hc]
 ·refine kY hle fun i x hi=> ?_
  obtain ⟨rfl,rfl⟩:=hx hi
  exact ⟨fun _ _=>hf,fun h=>absurd h (by simp [aI]),fun h=>⟨fun h=>absurd h (by simp [aI]),fun h=>absurd h (by simp [aI]),fun h=>absurd h (by simp [aI])⟩⟩
 refine eX (m:=m+18) (a':=b.at (upd fr c 9) (bT b)) (s':=aI [c] 1 1 [bT b c] [] Dead.z) (by simp [aI]) (by simp [aI]) (by simp [aI]) (by simp [aI]) ?_ ?_ ?_
 ·unfold ah.step0 ah.mark
  simp only [aI,nI,gI,List.map_cons,List.map_nil,Int.zero_tdiv,Int.zero_tmod,Int.toNat_zero,List.getElem?_cons_zero,Option.getD_some,HB.ls hc]
  simp
 ·refine kY hle fun i x hi=> ?_
  obtain ⟨rfl,rfl⟩:=hx hi
  exact ⟨fun _ _=>hf,fun h=>absurd h (by simp [aI]),fun h=>⟨fun h=>absurd h (by simp [aI]),fun h=>absurd h (by simp [aI]),fun h=>absurd h (by simp [aI])⟩⟩
 have hod:rC b [c] (upd (bT b) c (od b)):=fun x hm hn=>by simp at hm;subst hm;rw [upd_same];rfl
 refine eX (m:=m+17) (a':=b.at (upd fr c 9) (upd (bT b) c (od b))) (s':=aI [c] 2 0 [od b] [] Dead.z) (by simp [aI]) (by simp [aI]) (by simp [aI]) (by simp [aI]) ?_ ?_ ?_
 ·unfold ah.step0 ah.mark
  simp only [aI,nI,gI,fC,List.map_cons,List.map_nil,show (1:Int).tdiv 2=0 by decide,show (1:Int).tmod 2=1 by decide,Int.toNat_zero,List.getElem?_cons_zero,Option.getD_some,BD,BF hb hc hf,tX,ah.enter]
  simp [List.filter_cons,hc]
 ·refine kY hle fun i x hi=> ?_
  obtain ⟨rfl,rfl⟩:=hx hi
  exact ⟨fun _ _=>hf,fun h=>absurd h (by simp [aI]),fun h=>⟨fun _ _=>hod _ (by simp) hc,fun h=>absurd h (by simp [aI]),fun h=>absurd h (by simp [aI])⟩⟩
 have hM:Mid b [c] (upd fr c 9) (aI [c] 3 0 [od b] [b.sh c] Dead.z):=by
  refine ⟨hle,rfl,rfl,rfl,fun x hx=> ?_,rfl,rfl,fun i x hi hn=> ?_,fun i x hi hn=> ?_,rfl,fun i hi=> ?_,fun h=> ?_⟩
  ·simp at hx;subst hx;exact hf
  ·obtain ⟨rfl,rfl⟩:=hx hi;exact ⟨by simp [aI],rfl⟩
  ·obtain ⟨rfl,rfl⟩:=hx hi;exact ⟨by simp [aI],b.ep,rfl⟩
  ·simp [aI] at hi;subst hi;exact ⟨c,rfl,hc⟩
  ·simp at h;omega
 refine eX (m:=m+16) (a':=b.at (upd fr c 9) (upd (bT b) c (od b))) (s':=aI [c] 3 0 [od b] [b.sh c] Dead.z) (by simp [aI]) (by simp [aI]) (by simp [aI]) (by simp [aI]) ?_ (hM.hC hod (by simp [aI]) (by simp [aI]) rfl) ?_
 ·unfold ah.step0 ah.load
  simp only [aI,nI,gI,List.map_cons,List.map_nil,Int.toNat_zero,List.getElem?_cons_zero,Option.getD_some,HB.len,HB.lo hc,hne,ah.enter]
  simp
 have:=BB (q:=q) (p:=p) (m:=m+8) (k:=k+1+1+1+1) (g:=upd (bT b) c (od b)) hb (.inl ⟨_,rfl⟩) hM rfl rfl hod (fun j=>by
  by_cases hj:j=c
  ·exact .inr ⟨0,by simp [hj],by omega⟩
  ·rw [upd_ne _ _ hj];exact .inl rfl) (by simpa using hq)
 exact this
end
end Go.Eng
namespace Go.Eng
open Go
section
variable {b:HB} {m p:Nat} {k:Int} {q:Nat->List Int×Nat}
def f2 (c d:Nat):Nat->Int:=upd (upd fr c 9) d 9
theorem H7 {c d:Nat} (h:c<d):f2 c d c=9:=by unfold f2;rw [upd_ne _ _ (by omega),upd_same]
theorem Ph (c d:Nat):f2 c d d=9:=upd_same ..
theorem BG {c d i x:Nat} (h:[c,d][i]? =some x):(i=0/\x=c)\/(i=1/\x=d):=by rcases i with _|_|i<;>simp_all
theorem yJ {c d n:Nat} (h:c<d) (hd:d<=n):∀ x ∈ [c,d],x<=n:=by simp;omega
theorem BH {c d x:Nat} (h:c<d) (hx:x ∈ [c,d]):f2 c d x=9:=by
 simp at hx
 rcases hx with rfl|rfl
 ·exact H7 h
 ·exact Ph _ _
theorem yK {c d:Nat} {g:Nat->aG} {s:ah} (h:c<d) (hd:d<=b.n) (h1:s.phase=1):pJ (nI [c,d]) (b.at (f2 c d) g) s:=by
 refine kY (yJ h hd) fun i x hi=> ?_
 exact ⟨fun _ _=>BH h (List.mem_of_getElem? hi),fun h=>by omega,fun _=>⟨fun h=>by omega,fun h=>by omega,fun h=>by omega⟩⟩
theorem BI {c d:Nat} {g:Nat->aG} {s:ah} (h:c<d) (hd:d<=b.n) (h1:s.phase=2) (ho:rC b [c,d] g):pJ (nI [c,d]) (b.at (f2 c d) g) s:=by
 refine kY (yJ h hd) fun i x hi=> ?_
 have hm:=List.mem_of_getElem? hi
 exact ⟨fun _ _=>BH h hm,fun h=>by omega,fun hn=>⟨fun _ _=>ho x hm hn,fun h=>by omega,fun h=>by omega⟩⟩
theorem Pj {c d:Nat} (h:c<d) (hd:d<=b.n) (H:eU q (nI [c,d]) m (k+1+1) (b.at (f2 c d) (bT b)) (aI [c,d] 1 0 [] [] Dead.z) p):eU q (nI [c,d]) (m+2) k (b.at fr (bT b)) (fO [c,d]) p:=by
 have t1:=HB.tl (b:=b) (f:=fr) (g:=bT b) (c:=c) (by omega) rfl
 have t2:=HB.tl (b:=b) (f:=upd fr c 9) (g:=bT b) (c:=d) hd (by rw [upd_ne _ _ (by omega)];rfl)
 have hci:decide ((c:Int)<(b.n:Int))=true:=by simp;omega
 refine eX (m:=m+1) (a':=b.at (upd fr c 9) (bT b)) (s':={ah.z with lock:=⟨nI [c,d],0,1,0,0⟩,limit:=2}) (by simp [fO,ah.z]) (by simp [fO,ah.z]) (by simp [fO,ah.z]) (by simp [fO,ah.z]) ?_ ?_ ?_
 ·unfold ah.step0 aC.step
  simp only [fO,nI,ah.z,gI,List.map_cons,List.map_nil,Int.toNat_zero,List.getElem?_cons_zero,Option.getD_some,t1,ah.enter]
  simp
 ·refine kY (yJ h hd) fun i x hi=> ?_
  exact ⟨fun h=>absurd h (by simp [ah.z]),fun h=>absurd h (by simp [ah.z]),fun _=>⟨fun h=>absurd h (by simp [ah.z]),fun h=>absurd h (by simp [ah.z]),fun h=>absurd h (by simp [ah.z])⟩⟩
 refine eX (m:=m) (a':=b.at (f2 c d) (bT b)) (s':=aI [c,d] 1 0 [] [] Dead.z) (by simp [ah.z]) (by simp [ah.z]) (by simp [ah.z]) (by simp [ah.z]) ?_ (yK h hd rfl) H
 unfold ah.step0 aC.step
 have e1:(1:Int).toNat=1:=rfl
 simp only [nI,ah.z,gI,List.map_cons,List.map_nil,e1,List.getElem?_cons_succ,List.getElem?_cons_zero,Option.getD_some,t2,tX,ah.enter]
 have hc:c<b.n:=by omega
 simp [aI,nI,f2,List.filter_cons,hc]
 omega
theorem abq (hb:b.ok) {c:Nat} (hc:c<b.n) (hq:(q p).1=[]\/∃ j:Nat,j<2/\(q p).1=[(j:Int)]):eU q (nI [c,b.n]) (m+22) k (b.at fr (bT b)) (fO [c,b.n]) p:=by
 refine Pj (m:=m+20) hc (Nat.le_refl _) ?_
 have hci:decide ((c:Int)<(b.n:Int))=true:=by simp;omega
 have hne:((c:Int)==(b.n:Int))=false:=by simp;omega
 have hf:=H7 hc
 refine eX (m:=m+19) (a':=b.at (f2 c b.n) (bT b)) (s':=aI [c,b.n] 1 1 [bT b c] [] Dead.z) (by simp [aI]) (by simp [aI]) (by simp [aI]) (by simp [aI]) ?_ (yK hc (Nat.le_refl _) rfl) ?_
 ·unfold ah.step0 ah.mark
  simp only [aI,nI,gI,List.map_cons,List.map_nil,Int.zero_tdiv,Int.zero_tmod,Int.toNat_zero,List.getElem?_cons_zero,Option.getD_some,HB.ls hc]
  simp
 have hod:rC b [c,b.n] (upd (bT b) c (od b)):=fun x hm hn=>by
  simp at hm
  rcases hm with rfl|rfl
  ·rw [upd_same];rfl
  ·omega
 refine eX (m:=m+18) (a':=b.at (f2 c b.n) (upd (bT b) c (od b))) (s':=aI [c,b.n] 2 0 [od b] [] Dead.z) (by simp [aI]) (by simp [aI]) (by simp [aI]) (by simp [aI]) ?_ (BI hc (Nat.le_refl _) rfl hod) ?_
 ·unfold ah.step0 ah.mark
  simp only [aI,nI,gI,fC,List.map_cons,List.map_nil,show (1:Int).tdiv 2=0 by decide,show (1:Int).tmod 2=1 by decide,Int.toNat_zero,List.getElem?_cons_zero,Option.getD_some,BD,BF hb hc hf,tX,ah.enter]
  simp [List.filter_cons,hc]
 refine eX (m:=m+17) (a':=b.at (f2 c b.n) (upd (bT b) c (od b))) (s':=aI [c,b.n] 2 1 [od b] [b.sh c] Dead.z) (by simp [aI]) (by simp [aI]) (by simp [aI]) (by simp [aI]) ?_ (BI hc (Nat.le_refl _) rfl hod) ?_
 ·unfold ah.step0 ah.load
  simp only [aI,nI,gI,List.map_cons,List.map_nil,Int.toNat_zero,List.getElem?_cons_zero,Option.getD_some,HB.len,HB.lo hc,hne,ah.enter]
  simp
 have hM:Mid b [c,b.n] (f2 c b.n) (aI [c,b.n] 3 0 [od b] [b.sh c] b.dd):=by
  refine ⟨yJ hc (Nat.le_refl _),rfl,rfl,rfl,fun x hx=>BH hc hx,rfl,rfl,fun i x hi hn=> ?_,fun i x hi hn=> ?_,rfl,fun i hi=> ?_,fun _=>rfl⟩
  ·rcases BG hi with ⟨rfl,rfl⟩|⟨rfl,rfl⟩
   ·exact ⟨by simp [aI],rfl⟩
   ·omega
  ·rcases BG hi with ⟨rfl,rfl⟩|⟨rfl,rfl⟩
   ·exact ⟨by simp [aI],b.ep,rfl⟩
   ·omega
  ·simp [aI] at hi;subst hi;exact ⟨c,rfl,hc⟩
 refine eX (m:=m+16) (a':=b.at (f2 c b.n) (upd (bT b) c (od b))) (s':=aI [c,b.n] 3 0 [od b] [b.sh c] b.dd) (by simp [aI]) (by simp [aI]) (by simp [aI]) (by simp [aI]) ?_ (hM.hC hod (by simp [aI]) (by simp [aI]) rfl) ?_
 ·unfold ah.step0 ah.load
  have e1:(1:Int).toNat=1:=rfl
  simp only [aI,nI,gI,List.map_cons,List.map_nil,e1,List.getElem?_cons_succ,List.getElem?_cons_zero,Option.getD_some,HB.len,ah.enter]
  simp [HB.at]
 have:=BB (q:=q) (p:=p) (m:=m+8) (k:=k+1+1+1+1+1+1) (g:=upd (bT b) c (od b)) hb (.inr ⟨_,_,rfl,by omega⟩) hM rfl rfl hod (fun j=>by
  by_cases hj:j=c
  ·exact .inr ⟨0,by simp [hj],by omega⟩
  ·rw [upd_ne _ _ hj];exact .inl rfl) (by simpa using hq)
 exact this
theorem abr (hb:b.ok) {c d:Nat} (h:c<d) (hd:d<b.n) (hq:(q p).1=[]\/∃ j:Nat,j<2/\(q p).1=[(j:Int)]):eU q (nI [c,d]) (m+24) k (b.at fr (bT b)) (fO [c,d]) p:=by
 refine Pj (m:=m+22) h (by omega) ?_
 have hc:c<b.n:=by omega
 have hci:decide ((c:Int)<(b.n:Int))=true:=by simp;omega
 have hdi:decide ((d:Int)<(b.n:Int))=true:=by simp;omega
 have hne:((c:Int)==(b.n:Int))=false:=by simp;omega
 have hnd:((d:Int)==(b.n:Int))=false:=by simp;omega
 have hf:=H7 h
 have hg:=Ph c d
 have e1:(1:Int).toNat=1:=rfl
 have ed:upd (bT b) c (od b) d=bT b d:=upd_ne _ _ (by omega)
 refine eX (m:=m+21) (a':=b.at (f2 c d) (bT b)) (s':=aI [c,d] 1 1 [bT b c] [] Dead.z) (by simp [aI]) (by simp [aI]) (by simp [aI]) (by simp [aI]) ?_ (yK h (by omega) rfl) ?_
 ·unfold ah.step0 ah.mark
  simp only [aI,nI,gI,List.map_cons,List.map_nil,Int.zero_tdiv,Int.zero_tmod,Int.toNat_zero,List.getElem?_cons_zero,Option.getD_some,HB.ls hc]
  simp
 refine eX (m:=m+20) (a':=b.at (f2 c d) (upd (bT b) c (od b))) (s':=aI [c,d] 1 2 [od b] [] Dead.z) (by simp [aI]) (by simp [aI]) (by simp [aI]) (by simp [aI]) ?_ (yK h (by omega) rfl) ?_
 ·unfold ah.step0 ah.mark
  simp only [aI,nI,gI,fC,List.map_cons,List.map_nil,show (1:Int).tdiv 2=0 by decide,show (1:Int).tmod 2=1 by decide,Int.toNat_zero,List.getElem?_cons_zero,Option.getD_some,BD,BF hb hc hf,tX,ah.enter]
  simp [List.filter_cons,hc,hd]
 refine eX (m:=m+19) (a':=b.at (f2 c d) (upd (bT b) c (od b))) (s':=aI [c,d] 1 3 [od b,bT b d] [] Dead.z) (by simp [aI]) (by simp [aI]) (by simp [aI]) (by simp [aI]) ?_ (yK h (by omega) rfl) ?_
 ·unfold ah.step0 ah.mark
  simp only [aI,nI,gI,List.map_cons,List.map_nil,show (2:Int).tdiv 2=1 by decide,show (2:Int).tmod 2=0 by decide,e1,List.getElem?_cons_succ,List.getElem?_cons_zero,Option.getD_some,HB.ls hd,ed]
  simp
 have hod:rC b [c,d] (upd (upd (bT b) c (od b)) d (od b)):=fun x hm hn=>by
  simp at hm
  rcases hm with rfl|rfl
  ·rw [upd_ne _ _ (by omega),upd_same];rfl
  ·rw [upd_same];rfl
 refine eX (m:=m+18) (a':=b.at (f2 c d) (upd (upd (bT b) c (od b)) d (od b))) (s':=aI [c,d] 2 0 [od b,od b] [] Dead.z) (by simp [aI]) (by simp [aI]) (by simp [aI]) (by simp [aI]) ?_ (BI h (by omega) rfl hod) ?_
 ·unfold ah.step0 ah.mark
  simp only [aI,nI,gI,fC,List.map_cons,List.map_nil,show (3:Int).tdiv 2=1 by decide,show (3:Int).tmod 2=1 by decide,e1,List.getElem?_cons_succ,List.getElem?_cons_zero,Option.getD_some,BD,BF hb hd hg,tX,ah.enter]
  simp [List.filter_cons,hc,hd]
 refine eX (m:=m+17) (a':=b.at (f2 c d) (upd (upd (bT b) c (od b)) d (od b))) (s':=aI [c,d] 2 1 [od b,od b] [b.sh c] Dead.z) (by simp [aI]) (by simp [aI]) (by simp [aI]) (by simp [aI]) ?_ (BI h (by omega) rfl hod) ?_
 ·unfold ah.step0 ah.load
  simp only [aI,nI,gI,List.map_cons,List.map_nil,Int.toNat_zero,List.getElem?_cons_zero,Option.getD_some,HB.len,HB.lo hc,hne,ah.enter]
  simp
 have hM:Mid b [c,d] (f2 c d) (aI [c,d] 3 0 [od b,od b] [b.sh c,b.sh d] Dead.z):=by
  refine ⟨yJ h (by omega),rfl,rfl,rfl,fun x hx=>BH h hx,rfl,rfl,fun i x hi hn=> ?_,fun i x hi hn=> ?_,rfl,fun i hi=> ?_,fun hm=> ?_⟩
  ·rcases BG hi with ⟨rfl,rfl⟩|⟨rfl,rfl⟩
   ·exact ⟨by simp [aI],rfl⟩
   ·exact ⟨by simp [aI],rfl⟩
  ·rcases BG hi with ⟨rfl,rfl⟩|⟨rfl,rfl⟩
   ·exact ⟨by simp [aI],b.ep,rfl⟩
   ·exact ⟨by simp [aI],b.ep,rfl⟩
  ·simp [aI] at hi
   have:i=0\/i=1:=by omega
   rcases this with rfl|rfl
   ·exact ⟨c,rfl,hc⟩
   ·exact ⟨d,rfl,hd⟩
  ·simp at hm;omega
 refine eX (m:=m+16) (a':=b.at (f2 c d) (upd (upd (bT b) c (od b)) d (od b))) (s':=aI [c,d] 3 0 [od b,od b] [b.sh c,b.sh d] Dead.z) (by simp [aI]) (by simp [aI]) (by simp [aI]) (by simp [aI]) ?_ (hM.hC hod (by simp [aI]) (by simp [aI]) rfl) ?_
 ·unfold ah.step0 ah.load
  simp only [aI,nI,gI,List.map_cons,List.map_nil,e1,List.getElem?_cons_succ,List.getElem?_cons_zero,Option.getD_some,HB.len,HB.lo hd,hnd,ah.enter]
  simp
 have:=BB (q:=q) (p:=p) (m:=m+7) (k:=k+1+1+1+1+1+1+1+1) (g:=upd (upd (bT b) c (od b)) d (od b)) hb (.inr ⟨_,_,rfl,by omega⟩) hM rfl rfl hod (fun j=>by
  by_cases hj:j=d
  ·exact .inr ⟨1,by simp [hj],by omega⟩
  ·rw [upd_ne _ _ hj]
   by_cases hj2:j=c
   ·exact .inr ⟨0,by simp [hj2],by omega⟩
   ·rw [upd_ne _ _ hj2];exact .inl rfl) (by simpa using hq)
 exact this
end
end Go.Eng
namespace Go.Eng
open Go
structure jK (n:Nat) (t:Task) (x:kV):Prop where
 ar:x.1.wf n
 tk:x.2.1.dn=true\/x.2.1.wf n
 ev:x.2.2.1.length<=2
 rs:((x.2.1.results.drop t.results.length).map bI.tokens).flatten.length<=6
 su:x.2.1.setup=t.setup
section
variable {n:Nat} {a:ai} {t:Task} {k:Int}
theorem Task.kZ (ht:t.wf n) (r:bI) (k:Int):(t.next r k).dn=true\/(t.next r k).wf n:=by
 by_cases h:t.entry+1=t.inv.entries
 ·left;simp [Task.next,h]
 ·right
  have he:=ht.en
  exact ⟨ht.su,ht.iv,⟨by simp only [Task.next];omega,by simp only [Task.next];omega⟩,fun _=>⟨⟨by simp [Task.next],by simp [Task.next]⟩,.inl (by simp [Task.next])⟩,fun _=>⟨⟨by simp [Task.next],by simp [Task.next]⟩,.inl (by simp [Task.next])⟩,
   fun _ _=> .inl (by simp [Task.next]),fun _=> .inl (by simp [Task.next]),fun _ _=> .inl (by simp [Task.next]),fun _=> .inl (by simp [Task.next]),fun _=> .inl (by simp [Task.next])⟩
theorem Task.wf.turn (ht:t.wf n) {t':Task} (e1:t'.setup=t.setup) (e2:t'.inv=t.inv) (e3:t'.entry=t.entry)
 (k1:t.inv.kind=1->t'.walk.ok/\(t'.pc=0\/t'.pc=1\/t'.pc=2\/(t'.sec.wf n/\bE n t'.sec.lock.cells=1)))
 (k2:t.inv.kind=2->t'.walk.ok/\(t'.pc=0\/t'.pc=2\/(t'.sec.wf n/\bE n t'.sec.lock.cells=1)))
 (k3:3<=t.inv.kind->t.inv.kind<=5->t'.pc=0\/((0<=t'.hnd.route/\t'.hnd.route<65536)/\(t'.pc=1\/(t'.sec.wf n/\bE n t'.sec.lock.cells=1))))
 (k8:t.inv.kind=8->t'.pc=0\/(t'.sec.wf n/\bE n t'.sec.lock.cells=1/\t'.sec.lock.cells.length=2))
 (k9:9<=t.inv.kind->t.inv.kind<=11->t'.pc=0\/(t'.sec.wf n/\bE n t'.sec.lock.cells=2/\t'.sec.lock.cells.length=2))
 (k12:t.inv.kind=12\/t.inv.kind=13->t'.pc=0\/(t'.sec.wf n/\t'.sec.lock.cells.length=1))
 (k14:t.inv.kind=14->t'.pc=0\/(t'.sec.wf n/\bE n t'.sec.lock.cells=1/\t'.sec.lock.cells.length=2)):t'.wf n:=
 ⟨by rw [e1];exact ht.su,by rw [e1,e2];exact ht.iv,by rw [e2,e3];exact ht.en,by rw [e2];exact k1,by rw [e2];exact k2,by rw [e2];exact k3,by rw [e2];exact k8,by rw [e2];exact k9,by rw [e2];exact k12,by rw [e2];exact k14⟩
theorem Task.go_wf (ha:a.wf n) (hs:t.sec.wf n) (e:(t.go a k).2.2.2.2=0):(t.go a k).1.wf n/\(∃ s,(t.go a k).2.1={t with sec:=s}/\s.wf n/\s.lock.cells=t.sec.lock.cells/\
 ((t.go a k).2.2.1=true->s.phase=4)/\((t.go a k).2.2.2.1=true->s.phase=9)):=by
 unfold Task.go at e ⊢
 simp only at e ⊢
 split
 ·rename_i hc;rw [if_pos hc] at e;exact absurd e hc
 ·rename_i hc
  obtain ⟨h1,h2,h3⟩:=ah.rz ha hs (Decidable.not_not.1 hc)
  exact ⟨h1,_,rfl,h2,h3,by simp,by simp⟩
theorem one_cell {n:Nat} {c:Int} (h6:n<=6) (h0:0<=c) (h1:c<n) (l:Int) (hl:1<=l/\l<=8):
 (ah.new [c] l).1.wf n/\bE n (ah.new [c] l).1.lock.cells=1/\(ah.new [c] l).1.lock.cells=[c]:=by
 have e:(ah.new [c] l).2=0:=by
  have:(aC.new [c]).2=0:=by
   unfold aC.new
   rw [if_neg (by simp),if_pos]
   simp [iZ,bD];omega
  unfold ah.new
  rw [if_neg (by simp [this]),if_neg (by simp;omega)]
 obtain ⟨h2,h3⟩:=ah.vO (n:=n) (fun x hx=>by simp at hx;omega) e
 exact ⟨h2,by rw [h3];simp [bE,h1],h3⟩
theorem H8 {n:Nat} {c d:Int} (h6:n<=6) (h0:0<=c) (h1:c<d) (h2:d<=n) (l:Int) (hl:1<=l/\l<=8):
 (ah.new [c,d] l).1.wf n/\bE n (ah.new [c,d] l).1.lock.cells=(if d<n then 2 else 1)/\(ah.new [c,d] l).1.lock.cells=[c,d]:=by
 have e:(ah.new [c,d] l).2=0:=by
  have:(aC.new [c,d]).2=0:=by
   unfold aC.new
   rw [if_neg (by simp),if_pos]
   simp [iZ,bD];omega
  unfold ah.new
  rw [if_neg (by simp [this]),if_neg (by simp;omega)]
 obtain ⟨h3,h4⟩:=ah.vO (n:=n) (fun x hx=>by simp at hx;omega) e
 refine ⟨h3,?_,h4⟩
 rw [h4]
 have:c<n:=by omega
 by_cases hd:d<n<;>simp [bE,this,hd]
theorem abt {n:Nat} {c:Int} (h6:n<=6) (h0:0<=c) (h1:c<=n) (l:Int) (hl:1<=l/\l<=8):(ah.new [c] l).1.wf n/\(ah.new [c] l).1.lock.cells=[c]:=by
 have e:(ah.new [c] l).2=0:=by
  have:(aC.new [c]).2=0:=by
   unfold aC.new
   rw [if_neg (by simp),if_pos]
   simp [iZ,bD];omega
  unfold ah.new
  rw [if_neg (by simp [this]),if_neg (by simp;omega)]
 exact ah.vO (n:=n) (fun x hx=>by simp at hx;omega) e
theorem dY (l:List bI):((l.drop l.length).map bI.tokens).flatten.length<=6:=by simp
theorem lm (t:Task) (r:bI) (k:Int) (h:r.tokens.length<=6):(((t.next r k).results.drop t.results.length).map bI.tokens).flatten.length<=6:=by
 simp [Task.next,h]
theorem yL {s:ah} (hs:s.wf n) (hp:s.phase=4) {o:bL} (ho:o.aA.length=s.aA.length) (he:o.dF.length<=1) (hk:fe s.lock.cells o.order []=true) (t:Task) (ht:t.sec=s):
 (t.dec o).sec.wf n/\(t.dec o).sec.lock.cells=s.lock.cells:=by
 unfold Task.dec
 simp only [ht]
 exact ah.O3 hs hp ho he hk
theorem BJ {cells:List Int} (h:1<=cells.length):fe cells [0] []=true:=by simp [fe];omega
theorem Pk {cells:List Int} (h:cells.length=2):fe cells [0,1] []=true:=by simp [fe,h]
theorem Pm {cells:List Int} (h:cells.length=2):fe cells [1,0] []=true:=by simp [fe,h]
theorem rD {cells:List Int}:fe cells [] []=true:=rfl
end
end Go.Eng
